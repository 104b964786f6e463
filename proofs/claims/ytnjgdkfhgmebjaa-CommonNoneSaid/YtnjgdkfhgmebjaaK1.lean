/- Walks of functions. Conditions: none. -/
import Derived.Test.YtnjgdkfhgmebjaaWa
import Derived.Test.YtnjgdkfhgmebjaaGgTy
import Derived.Test.YtnjgdkfhgmebjaaGd
namespace Go.Proofs.Ytnjgdkfhgmebjaa
open Go.Gg
set_option maxRecDepth 100000
variable {S:St} {R:AV->St->Prop}
theorem bg {a:List Int} {Q:List Int->Prop} (h:bi a Q) (hQ:∀r1,Q r1->R (ac r1) S) :
  Ctr Try.prog 55 [ac a] S R:=by
 refine aL Try.func55 rfl Try.ntmps55 Try.results55 krZ (λrg hrg=>?_)
 refine af<|asZ .nil O<|aT<|mvZ (ac a) O<|aa<|aB aG O<|asZ (iZ (a.length:Int)) O<|nZ<|jnZ h (λy=>aR [(0,ac a),(3,iZ y)]) (λy=>stL S rg []) (λn h=>?_) (λ_ h=>?_)
 ·refine qZ<|af<|mvZ (iZ n) O<|aa<|cu O O<|nZ<|cZ h O (λhb h=>?_) (λhb h=>?_)
  ·exact af<|asZ .nil O<|aD<|an (v:=.nil) O<|aI<|aJ hrg (VW.nilL)<|hQ _ h
  exact kZ<|af<|wZ rg<|aY aG ec cC (es:=[]) O (kk:=1) O O O O O O (λg1=>mvZ (ac a) O<|mvZ (iZ n) O<|tkZ h (λhg h=>aa<|jh aG a_ dZ (λ_=>O) O (l:=0) (h:=n) O O hg<|tkZ h (λhg1 h=>wZ rg<|cL aG eX ec cC (es:=([]:List Int)) (xs:=(eh a 0 n)) (enc:=AV.int .u32) (aZ 20 O) lzZ (O) (kk:=1) O O (λ_=>O) (λ_=>O) hg1 O (λ_=>ba) (λg2=>asZ (.sl 1 rg 20 g2 0<|(([]:List Int)++(eh a 0 n)).length) O (aD<|an (v:=.sl 1 rg 20 g2 0 ((([]:List Int)++(eh a 0 n)).length)) O (aI<|bK (k:=20) (xs:=List.map (AV.int .u32) (([]:List Int)++(eh a 0 n))) O (v':=ac (([]:List Int)++(eh a 0 n))) (a8 O) (goZ hrg<|hQ _ h)))))))
 refine bZ<|lpZ h (λy=>aR [(0,ac a),(3,iZ y)]) (λy=>stL S rg []) (am (fZ<|fZ<|fn)<|sn) (λn1 _ h=>qZ<|af<|mvZ (iZ n1) O<|aa<|eb O O<|mvZ (.bool<|decide<|0<n1) O<|gtZ h O O (λhb1 h=>?_) (λhb1 h=>?_))
 ·refine mvZ (ac a) O<|gTZ O O hb1<|mvZ (iZ n1) O<|gTZ O O hb1<|tkZ h (λhg2 h=>aa<|bC O O hg2<|gTZ O O hb1<|tkZ h (λhg3 h=>aa<|aQ aG a_ dZ (λ_=>O) O O hg3<|gTZ O O hb1<|aa<|aN a_ dG O O (v:=.int .u32 (at' a<|n1-1)) O (gTZ O O hb1<|aa<|cu O O<|aa<|aM O hb1 (v:=.bool ((at' a<|n1-1) == 0)) O (nZ<|cZ h O (λhb2 h=>?_) (λhb2 h=>?_)))))
  ·exact kZ<|bZ<|rZ<|mvZ (iZ n1) O<|tkZ h (λhg4 h=>aa<|bC O O hg4<|asZ (iZ<|n1-1) O<|nZ<|⟨(n1-1),(am (fZ<|fZ<|fn)<|sn),h⟩)
  exact xsZ<|⟨n1,(am (fZ<|fZ<|fn)<|sn),h⟩
 exact gFZ O O hb1 O<|gFZ O O hb1 O<|gFZ O O hb1 O<|gFZ O O hb1 O<|gFZ O O hb1 O<|aa<|aE O hb1 (v:=.bool false) O<|nZ<|cFZ O O<|xsZ<|⟨n1,(am (fZ<|fZ<|fn)<|sn),h⟩
theorem du {a:List Int} {b:List Int} {Q:Int->Prop} (h:cm a b Q) (hQ:∀r1,Q r1->R (iZ r1) S) :
  Ctr Try.prog 50 [ac a,ac b] S R:=by
 refine aL Try.func50 rfl Try.ntmps50 Try.results50 krZ (λrg hrg=>?_)
 refine af<|asZ (iZ 0) O<|aT<|mvZ (ac a) O<|aa<|clZ O<|bg h λa1 h=>mvZ (ac b) O<|aa<|clZ O<|bg h λb1 h=>asZ (ac a1) O<|asZ (ac b1) O<|nZ<|qZ<|af<|mvZ (ac a1) O<|aa<|aB aG O<|mvZ (ac b1) O<|aa<|aB aG O<|aa<|dD O O<|nZ<|cZ h O (λhb h=>?_) (λhb h=>?_)
 ·refine qZ<|af<|mvZ (ac a1) O<|aa<|aB aG O<|mvZ (ac b1) O<|aa<|aB aG O<|aa<|bc O O<|nZ<|cZ h O (λhb1 h=>?_) (λhb1 h=>?_)
  ·exact af<|asZ (iZ<|-1) O<|aD<|gv1 hrg<|hQ _ h
  exact kZ<|af<|asZ (iZ 1) O<|aD<|gv1 hrg<|hQ _ h
 refine kZ<|qZ<|af<|mvZ (ac a1) O<|aa<|aB aG O<|tkZ h (λhg h=>aa<|bC O O hg<|asZ (iZ<|(a1.length:Int)-1) O<|nZ<|bZ<|lpZ h (λy=>aR [(0,ac a1),(1,ac b1),(5,iZ y)]) (λy=>stL S rg []) (am (fZ<|fZ<|fZ<|fn)<|sn) (λi _ h=>qZ<|af<|mvZ (iZ i) O<|aa<|eo O O<|nZ<|cZ h O (λhb2 h=>?_) (λhb2 h=>?_)))
 ·refine kZ<|qZ<|bZ<|qZ<|qZ<|tkZ h (λhg1 h=>tkZ h (λhg2 h=>Vc.drawn' bR rg (λ_=>fH) krZ<|dP O O<|ak (v:=ac a1) O<|dP O O<|ak (v:=iZ i) O<|dP O O<|aQ aG a_ dZ (λ_=>O) O O hg1<|dP O O<|aN a_ dG O O (v:=.int .u32 (at' a1 i)) O<|dP O O<|ak (v:=ac b1) O<|dP O O<|ak (v:=iZ i) O<|dP O O<|aQ aG a_ dZ (λ_=>O) O O hg2<|dP O O<|aN a_ dG O O (v:=.int .u32 (at' b1 i)) O<|dP O O<|bc O O<|dN<|cZ h O (λhb3 h=>?_) (λhb3 h=>?_)))
  ·exact af<|asZ (iZ<|-1) O<|aD<|gv1 hrg<|hQ _ h
  refine kZ<|qZ<|tkZ h (λhg3 h=>tkZ h (λhg4 h=>Vc.drawn' bR rg (λ_=>fH) krZ<|dP O O<|ak (v:=ac a1) O<|dP O O<|ak (v:=iZ i) O<|dP O O<|aQ aG a_ dZ (λ_=>O) O O hg3<|dP O O<|aN a_ dG O O (v:=.int .u32 (at' a1 i)) O<|dP O O<|ak (v:=ac b1) O<|dP O O<|ak (v:=iZ i) O<|dP O O<|aQ aG a_ dZ (λ_=>O) O O hg4<|dP O O<|aN a_ dG O O (v:=.int .u32 (at' b1 i)) O<|dP O O<|eb O O<|dN<|cZ h O (λhb4 h=>?_) (λhb4 h=>?_)))
  ·exact af<|asZ (iZ 1) O<|aD<|gv1 hrg<|hQ _ h
  exact kZ<|rZ<|mvZ (iZ i) O<|tkZ h (λhg5 h=>aa<|bC O O hg5<|asZ (iZ<|i-1) O<|nZ<|⟨(i-1),(am (fZ<|fZ<|fZ<|fn)<|sn),h⟩)
 exact xsZ<|af<|asZ (iZ 0) O<|aD<|gv1 hrg<|hQ _ h
theorem jl {n:Int} {Q:List Int->Prop} (h:gd n Q) (hQ:∀r1,Q r1->R (ac r1) S) :
  Ctr Try.prog 58 [iZ n] S R:=by
 refine aL Try.func58 rfl Try.ntmps58 Try.results58 krZ (λrg hrg=>?_)
 refine af<|asZ .nil O<|nZ<|qZ<|af<|mvZ (iZ n) O<|aa<|nk O O<|nZ<|cZ h O (λhb h=>?_) (λhb h=>?_)
 ·exact af<|asZ .nil O<|aD<|an (v:=.nil) O<|aI<|aJ hrg (VW.nilL)<|hQ _ h
 exact kZ<|af<|mvZ (iZ n) O<|aa<|bb td3 cE O<|mvZ (iZ n) O<|aa<|eQ O O dZ<|aa<|bb td3 cE O<|wZ rg<|aY aG ec cC (es:=[.int .u32 (IntKind.wrap .u32 n),.int .u32 (IntKind.wrap .u32<|n / 2^(Int.toNat 32))]) O (kk:=1) O O O O O O (λg1=>dX (aU (k:=10) (xs:=List.map (AV.int .u32) [(IntKind.wrap .u32 n),(IntKind.wrap .u32<|n / 2^(Int.toNat 32))]) O (es:=[(10,ac [(IntKind.wrap .u32 n),(IntKind.wrap .u32<|n / 2^(Int.toNat 32))])]) (fc (a8 O)<|fn) (m:=[]) (sn)) (aa<|clZ O<|bg h λr h=>asZ (ac r) O<|aD<|gv1 hrg<|hQ _ h))
theorem kF {a:List Int} {b:Int} {Q:List Int->Int->Prop} (h:ey a b Q) (hQ:∀r1 r2,Q r1 r2->R (.tuple [ac r1,AV.int .u32 r2]) S) :
  Ctr Try.prog 65 [ac a,AV.int .u32 b] S R:=by
 refine aL Try.func65 rfl Try.ntmps65 Try.results65 krZ (λrg hrg=>?_)
 refine af<|asZ .nil O<|asZ (.int .u32 0) O<|aT<|mvZ (ac a) O<|aa<|aB aG O<|tkZ h (λhg h=>wZ rg<|gy aG eX ec (enc:=AV.int .u32) (z':=0) cC (kk:=1) O O O hg (λg1=>asZ (.sl 1 rg 11 g1 0<|Int.toNat (a.length:Int)) O<|aT<|asZ (.int .u64 0) O<|nZ<|qZ<|af<|mvZ (ac a) O<|aa<|aB aG O<|tkZ h (λhg1 h=>aa<|bC O O hg1<|asZ (iZ<|(a.length:Int)-1) O<|nZ<|bZ<|lpZ h (λy=>aR [(0,ac a),(1,.int .u32 b),(6,.sl 1 rg 11 g1 0 y.2.2.length),(7,.int .u64 y.1),(8,iZ y.2.1)]) (λy=>stL S rg [(11,.arr 1 (List.map (AV.int .u32) y.2.2),g1)]) (am (fZ<|fZ<|fc (VW.slen lzZ)<|fZ<|fZ<|fn)<|sc O<|sn) (λy _ h=>?_))))
 obtain⟨rest,i,out⟩:=y
 refine qZ<|af<|mvZ (iZ i) O<|aa<|eo O O<|nZ<|cZ h O (λhb h=>?_) (λhb h=>?_)
 ·exact kZ<|qZ<|bZ<|af<|mvZ (.int .u64 rest) O<|aa<|ji O O dZ<|mvZ (ac a) O<|mvZ (iZ i) O<|tkZ h (λhg2 h=>aa<|aQ aG a_ dZ (λ_=>O) O O hg2<|aa<|aN a_ dG O O (v:=.int .u32 (at' a i)) O<|aa<|bb cE cR O<|aa<|oW O O<|stZ h (λrest1 hs h=>wZ rg<|aO (v:=.int .u64 rest1) (by subst hs;rfl)<|aT<|mvZ (.sl 1 rg 11 g1 0 out.length) O<|mvZ (iZ i) O<|mvZ (.int .u64 rest1) O<|mvZ (.int .u32 b) O<|aa<|bb cE cR O<|tkZ h (λhg3 h=>aa<|rh O O hg3<|aa<|bb cR cE O<|tkZ h (λhi h=>aa<|bI aG a_ dZ O O hi<|aa<|bU (aZ 11 O) a_ dZ (x':=(IntKind.wrap .u32<|IntKind.wrap .u64<|Int.tdiv rest1<|IntKind.wrap .u64 b)) (λ_=>O) O O (de hi lzZ) O O ba<|nZ<|rZ<|mvZ (.int .u64 rest1) O<|mvZ (.int .u32 b) O<|aa<|bb cE cR O<|tkZ h (λhg4 h=>aa<|vg O O hg4<|asZ (.int .u64<|Int.tmod rest1<|IntKind.wrap .u64 b) O<|nZ<|rZ<|mvZ (iZ i) O<|tkZ h (λhg5 h=>aa<|bC O O hg5<|asZ (iZ<|i-1) O<|nZ<|⟨((Int.tmod rest1<|IntKind.wrap .u64 b),(i-1),(b6 out i<|IntKind.wrap .u32<|IntKind.wrap .u64<|Int.tdiv rest1<|IntKind.wrap .u64 b)),(am (fZ<|fZ<|fc (VW.slen lzZ)<|fZ<|fZ<|fn)<|sc O<|sn),h⟩))))))
 exact xsZ<|af<|mvZ (.sl 1 rg 11 g1 0 out.length) O<|dX (aU (k:=11) (xs:=List.map (AV.int .u32) out) O (es:=[(7,.int .u64 rest),(39,ac out)]) (fZ<|fc (a8 O)<|fn) (m:=[]) (sn)) (aa<|clZ O<|bg h λr h=>mvZ (.int .u64 rest) O<|aa<|bb cR cE O<|asZ (ac r) O<|asZ (.int .u32<|IntKind.wrap .u32 rest) O<|aD<|an (v:=ac r) O<|an (v:=.int .u32 (IntKind.wrap .u32 rest)) O<|aI<|aJ hrg (VW.tupL<|vZ<|vZ<|vn)<|hQ _ _ h)
theorem fW {x:Int} {Q:Int->Prop} (h:dE x Q) (hQ:∀r1,Q r1->R (iZ r1) S) :
  Ctr Try.prog 64 [AV.int .u32 x] S R:=by
 refine aL Try.func64 rfl Try.ntmps64 Try.results64 krZ (λrg hrg=>?_)
 refine af<|asZ (iZ 0) O<|nZ<|jnZ h (λy=>aR [(0,.int .u32 y.1),(2,iZ y.2)]) (λy=>stL S rg []) (λy h=>?_) (λ_ h=>?_)
 ·obtain⟨x1,n⟩:=y
  refine jnZ h (λy=>aR [(0,.int .u32 y.1),(2,iZ y.2)]) (λy=>stL S rg []) (λy h=>?_) (λ_ h=>?_)
  ·obtain⟨x2,n1⟩:=y
   exact af<|mvZ (iZ n1) O<|mvZ (.int .u32 x2) O<|aa<|bb cE td5 O<|tkZ h (λhg h=>wZ rg<|tr td9 krZ O hg<|aa<|bb td5 td3 O<|tkZ h (λhg1 h=>aa<|aC O O hg1<|stZ h (λn2 hs h=>wZ rg<|aO (v:=iZ n2) (by subst hs;rfl)<|aD<|gv1 hrg<|hQ _ h)))
  refine af<|mvZ (.int .u32 x1) O<|aa<|eo O O<|nZ<|cZ h O (λhb h=>?_) (λhb h=>?_)
  ·exact af<|mvZ (.int .u32 x1) O<|aa<|eQ O O dZ<|asZ (.int .u32<|x1 / 2^(Int.toNat 8)) O<|nZ<|rZ<|mvZ (iZ n) O<|tkZ h (λhg2 h=>aa<|aC O O hg2<|asZ (iZ<|n+8) O<|nZ<|⟨((x1 / 2^(Int.toNat 8)),(n+8)),(am (fZ<|fZ<|fn)<|sn),h⟩)
  exact kZ<|⟨(x1,n),(am (fZ<|fZ<|fn)<|sn),h⟩
 refine af<|mvZ (.int .u32 x) O<|aa<|eo O O<|nZ<|cZ h O (λhb1 h=>?_) (λhb1 h=>?_)
 ·exact af<|mvZ (.int .u32 x) O<|aa<|eQ O O dZ<|asZ (.int .u32<|x / 2^(Int.toNat 16)) O<|nZ<|rZ<|asZ (iZ 16) O<|nZ<|⟨((x / 2^(Int.toNat 16)),16),(am (fZ<|fZ<|fn)<|sn),h⟩
 exact kZ<|⟨(x,0),(am (fZ<|fZ<|fn)<|sn),h⟩
theorem fR {x:Int} {Q:Int->Prop} (h:cN x Q) (hQ:∀r1,Q r1->R (iZ r1) S) :
  Ctr Try.prog 66 [AV.int .u32 x] S R:=by
 refine aL Try.func66 rfl Try.ntmps66 Try.results66 krZ (λrg hrg=>?_)
 exact af<|asZ (iZ 0) O<|aT<|mvZ (.int .u32 x) O<|aa<|clZ O<|fW h λr h=>tkZ h (λhg h=>aa<|bC O O hg<|asZ (iZ<|32-r) O<|aD<|gv1 hrg<|hQ _ h)
theorem lw {a:List Int} {n:Int} {Q:List Int->Prop} (h:cM a n Q) (hQ:∀r1,Q r1->R (ac r1) S) :
  Ctr Try.prog 67 [ac a,iZ n] S R:=by
 refine aL Try.func67 rfl Try.ntmps67 Try.results67 krZ (λrg hrg=>?_)
 refine af<|asZ .nil O<|aT<|mvZ (ac a) O<|aa<|aB aG O<|tkZ h (λhg h=>aa<|aC O O hg<|tkZ h (λhg1 h=>wZ rg<|gy aG eX ec (enc:=AV.int .u32) (z':=0) cC (kk:=1) O O O hg1 (λg1=>asZ (.sl 1 rg 12 g1 0<|Int.toNat<|(a.length:Int)+1) O<|nZ<|qZ<|af<|mvZ (ac a) O<|aa<|aB aG O<|mvZ (iZ 0) O<|nZ<|bZ<|lpZ h (λy=>aR [(1,iZ n),(5,.sl 1 rg 12 g1 0 y.2.length),(13,ac a),(14,iZ (a.length:Int)),(15,iZ y.1)]) (λy=>stL S rg [(12,.arr 1 (List.map (AV.int .u32) y.2),g1)]) (am (fZ<|fc (VW.slen lzZ)<|fZ<|fZ<|fZ<|fn)<|sc O<|sn) (λy _ h=>?_))))
 obtain⟨x,out⟩:=y
 refine af<|aa<|bc O O<|nZ<|qZ<|cZ h O (λhb h=>?_) (λhb h=>?_)
 ·refine kZ<|qZ<|bZ<|af<|mvZ (iZ x) O<|tkZ h (λhg2 h=>aa<|aQ aG a_ dZ (λ_=>O) O O hg2<|aa<|aN a_ dG O O (v:=.int .u32 (at' a x)) O<|asZ (iZ x) O<|asZ (.int .u32<|at' a x) O<|aT<|mvZ (.int .u32<|at' a x) O<|aa<|bb cE cR O<|mvZ (iZ n) O<|tkZ h (λhg3 h=>aa<|ji O O hg3<|stZ h (λy1 hs h=>wZ rg<|aO (v:=.int .u64 y1) (by subst hs;rfl)<|aT<|mvZ (.sl 1 rg 12 g1 0 out.length) O<|mvZ (iZ x) O<|tkZ h (λhi h=>aa<|bI aG a_ dZ O O hi<|aa<|db (aZ 12 O) a_ dG O (de hi lzZ) O (v:=.int .u32 (at' out x)) O<|mvZ (.int .u64 y1) O<|aa<|bb cR cE O<|aa<|oW O O<|tkZ h (λhi1 h=>aa<|bI aG a_ dZ O O hi1<|aa<|bU (aZ 12 O) a_ dZ (x':=(bits .or .u32 (at' out x)<|IntKind.wrap .u32 y1)) (λ_=>O) O O (de hi1 lzZ) O O ba<|nZ<|rZ<|mvZ (.sl 1 rg 12 g1 0 out.length) O<|mvZ (iZ x) O<|tkZ h (λhg4 h=>aa<|aC O O hg4<|mvZ (.int .u64 y1) O<|aa<|eQ O O dZ<|aa<|bb cR cE O<|tkZ h (λhi2 h=>aa<|bI aG a_ dZ O O hi2<|aa<|bU (aZ 12 O) a_ dZ (x':=(IntKind.wrap .u32<|y1 / 2^(Int.toNat 32))) (λ_=>O) O O (de hi2 lzZ) O O ba<|nZ<|rZ<|tkZ h (λhg5 h=>aa<|aC O O hg5<|mvZ (iZ<|x+1) O<|nZ ?_))))))))
  exact⟨((x+1),(b6 (b6 out x<|bits .or .u32 (at' out x)<|IntKind.wrap .u32 y1) (x+1)<|IntKind.wrap .u32<|y1 / 2^(Int.toNat 32))),(am (fZ<|fc (VW.slen lzZ)<|fZ<|fZ<|fZ<|fn)<|sc O<|sn),h⟩
 exact xsZ<|af<|mvZ (.sl 1 rg 12 g1 0 out.length) O<|asZ (.sl 1 rg 12 g1 0 out.length) O<|aD<|an (v:=.sl 1 rg 12 g1 0 out.length) O<|aI<|bK (k:=12) (xs:=List.map (AV.int .u32) out) O (v':=ac out) (a8 O)<|goZ hrg<|hQ _ h
theorem kH {a:List Int} {n:Int} (q k:Nat) {Q:List Int->Prop} {S:St} {R:AV->St->Prop} (h:cM a n Q) (hQ:∀r1 g,Q r1->R (.sl 1 q k g 0 r1.length) (S.set q k (.arr 1 (List.map (AV.int .u32) r1)) g)) :
  Ctr Try.prog 67 [ac a,iZ n] S R:=by
 unfold cM at h
 refine aL Try.func67 rfl Try.ntmps67 Try.results67 krZ (λrg hrg=>?_)
 refine af<|asZ .nil O<|aT<|mvZ (ac a) O<|aa<|aB aG O<|tkZ h (λhg h=>aa<|aC O O hg<|tkZ h (λhg1 h=>wZ rg<|gy aG eX ec (enc:=AV.int .u32) (z':=0) cC (kk:=1) O O O hg1 (λg1=>asZ (.sl 1 rg 12 g1 0<|Int.toNat<|(a.length:Int)+1) O<|nZ<|qZ<|af<|mvZ (ac a) O<|aa<|aB aG O<|mvZ (iZ 0) O<|nZ<|bZ<|lpZ h (λy=>aR [(1,iZ n),(5,.sl 1 rg 12 g1 0 y.2.length),(13,ac a),(14,iZ (a.length:Int)),(15,iZ y.1)]) (λy=>stL S rg [(12,.arr 1 (List.map (AV.int .u32) y.2),g1)]) (am (fZ<|fc (VW.slen lzZ)<|fZ<|fZ<|fZ<|fn)<|sc O<|sn) (λy _ h=>?_))))
 obtain⟨x,out⟩:=y
 refine af<|aa<|bc O O<|nZ<|qZ<|cZ h O (λhb h=>?_) (λhb h=>?_)
 ·refine kZ<|qZ<|bZ<|af<|mvZ (iZ x) O<|tkZ h (λhg2 h=>aa<|aQ aG a_ dZ (λ_=>O) O O hg2<|aa<|aN a_ dG O O (v:=.int .u32 (at' a x)) O<|asZ (iZ x) O<|asZ (.int .u32<|at' a x) O<|aT<|mvZ (.int .u32<|at' a x) O<|aa<|bb cE cR O<|mvZ (iZ n) O<|tkZ h (λhg3 h=>aa<|ji O O hg3<|stZ h (λy1 hs h=>wZ rg<|aO (v:=.int .u64 y1) (by subst hs;rfl)<|aT<|mvZ (.sl 1 rg 12 g1 0 out.length) O<|mvZ (iZ x) O<|tkZ h (λhi h=>aa<|bI aG a_ dZ O O hi<|aa<|db (aZ 12 O) a_ dG O (de hi lzZ) O (v:=.int .u32 (at' out x)) O<|mvZ (.int .u64 y1) O<|aa<|bb cR cE O<|aa<|oW O O<|tkZ h (λhi1 h=>aa<|bI aG a_ dZ O O hi1<|aa<|bU (aZ 12 O) a_ dZ (x':=(bits .or .u32 (at' out x)<|IntKind.wrap .u32 y1)) (λ_=>O) O O (de hi1 lzZ) O O ba<|nZ<|rZ<|mvZ (.sl 1 rg 12 g1 0 out.length) O<|mvZ (iZ x) O<|tkZ h (λhg4 h=>aa<|aC O O hg4<|mvZ (.int .u64 y1) O<|aa<|eQ O O dZ<|aa<|bb cR cE O<|tkZ h (λhi2 h=>aa<|bI aG a_ dZ O O hi2<|aa<|bU (aZ 12 O) a_ dZ (x':=(IntKind.wrap .u32<|y1 / 2^(Int.toNat 32))) (λ_=>O) O O (de hi2 lzZ) O O ba<|nZ<|rZ<|tkZ h (λhg5 h=>aa<|aC O O hg5<|mvZ (iZ<|x+1) O<|nZ ?_))))))))
  exact⟨((x+1),(b6 (b6 out x<|bits .or .u32 (at' out x)<|IntKind.wrap .u32 y1) (x+1)<|IntKind.wrap .u32<|y1 / 2^(Int.toNat 32))),(am (fZ<|fc (VW.slen lzZ)<|fZ<|fZ<|fZ<|fn)<|sc O<|sn),h⟩
 refine xsZ<|af<|mvZ (.sl 1 rg 12 g1 0 out.length) O<|asZ (.sl 1 rg 12 g1 0 out.length) O<|aD<|an (v:=.sl 1 rg 12 g1 0 out.length) O<|aI ?_
 show cX _ (.sl 1 rg 12 g1 0 out.length) _
 exact sg q k hrg O (λg'=>hQ _ g' h)
theorem bV {a:List Int} {i:Int} {Q:Int->Prop} (h:bO a i Q) (hQ:∀r1,Q r1->R (AV.int .u64 r1) S) :
  Ctr Try.prog 71 [ac a,iZ i] S R:=by
 refine aL Try.func71 rfl Try.ntmps71 Try.results71 krZ (λrg hrg=>?_)
 refine af<|asZ (.int .u64 0) O<|nZ<|qZ<|af<|mvZ (iZ i) O<|mvZ (ac a) O<|aa<|aB aG O<|aa<|bc O O<|nZ<|cZ h O (λhb h=>?_) (λhb h=>?_)
 ·exact af<|mvZ (ac a) O<|mvZ (iZ i) O<|tkZ h (λhg h=>aa<|aQ aG a_ dZ (λ_=>O) O O hg<|aa<|aN a_ dG O O (v:=.int .u32 (at' a i)) O<|aa<|bb cE cR O<|asZ (.int .u64<|IntKind.wrap .u64<|at' a i) O<|aD<|gv1 hrg<|hQ _ h)
 exact kZ<|af<|asZ (.int .u64 0) O<|aD<|gv1 hrg<|hQ _ h
theorem lv {u:List Int} {uo:Nat} {ul:Nat} {v:List Int} {n:Int} {q0 k0 g0:Nat} {Q:List Int->Bool->Prop} (h:gz u uo ul v n Q) (hQ:∀r1 r2,Q r1 r2->R (AV.bool r2) (stX S [(q0,k0,.arr 1 (List.map (AV.int .u32) r1),g0)])) :
  Ctr Try.prog 68 [.sl 1 q0 k0 g0 uo ul,ac v,AV.int .u64 n] (stX S [(q0,k0,.arr 1 (List.map (AV.int .u32) u),g0)]) R:=by
 refine aL Try.func68 rfl Try.ntmps68 Try.results68 krZ (λrg hrg=>?_)
 have hdx:DX [(q0,k0,.arr 1 (List.map (AV.int .u32) u),g0)]:=dx1
 have hfr:=λX' e=>gp (S:=S) (rg:=rg) (X:=[(q0,k0,.arr 1 (List.map (AV.int .u32) u),g0)]) (X':=X') e hrg
 have hne0:=jp hdx hrg 0 rfl
 refine af<|asZ (.bool false) O<|aT<|asZ (.int .u64 0) O<|asZ (.int .u64 0) O<|nZ<|qZ<|af<|mvZ (.sl 1 q0 k0 g0 uo ul) O<|aa<|dM aG O<|mvZ (iZ 0) O<|nZ<|bZ<|lpZ h (λy=>aR [(0,.sl 1 q0 k0 g0 uo ul),(1,ac v),(2,.int .u64 n),(7,.int .u64 y.1),(8,.int .u64 y.2.1),(12,iZ (ul:Int)),(13,iZ y.2.2.1)]) (λy=>stL (stX S [(q0,k0,.arr 1 (List.map (AV.int .u32) y.2.2.2),g0)]) rg []) (am (aP<|fZ<|fZ<|fZ<|fn)<|sn) (λy _ h=>?_)
 obtain⟨carry,borrow,x,u1⟩:=y
 refine af<|aa<|bc O O<|nZ<|qZ<|cZ h O (λhb h=>?_) (λhb h=>?_)
 ·refine kZ<|qZ<|bZ<|af<|mvZ (iZ x) O<|asZ (iZ x) O<|aT<|mvZ (.int .u64 carry) O<|mvZ (.int .u64 n) O<|mvZ (ac v) O<|mvZ (iZ x) O<|aa<|clZ O<|bV h λr h=>aa<|pP O O<|aa<|jj O O<|stZ h (λcarry1 hs h=>wZ rg<|aO (v:=.int .u64 carry1) (by subst hs;rfl)<|aT<|mvZ (.sl 1 q0 k0 g0 uo ul) O<|mvZ (iZ x) O<|tkZ h (λhi h=>aa<|mK aG a_ dZ O O hi<|tkZ h (λhg h=>aa<|db (atX hne0 hdx 0 O) a_ dG O (hg) O (v:=.int .u32 (at' u1<|(uo:Int)+x)) O (aa<|bb cE cR O<|mvZ (.int .u64 carry1) O<|aa<|bb cR cE O<|aa<|bb cE cR O<|aa<|jN O O<|mvZ (.int .u64 borrow) O<|aa<|jN O O<|stZ h (λd hs1 h=>wZ rg<|aO (v:=.int .u64 d) (by subst hs1;rfl)<|aT<|mvZ (.sl 1 q0 k0 g0 uo ul) O<|mvZ (iZ x) O<|mvZ (.int .u64 d) O<|aa<|bb cR cE O<|tkZ h (λhi1 h=>aa<|mK aG a_ dZ O O hi1<|tkZ h (λhg1 h=>aa<|bU (atX hne0 hdx 0 O) a_ dZ (x':=(IntKind.wrap .u32 d)) (λ_=>O) O O (hg1) O O (vN hne0 hdx 0 O O)<|aT<|mvZ (.int .u64 d) O<|aa<|eQ O O dZ<|asZ (.int .u64<|d / 2^(Int.toNat 63)) O<|nZ<|rZ<|mvZ (.int .u64 carry1) O<|aa<|eQ O O dZ<|asZ (.int .u64<|carry1 / 2^(Int.toNat 32)) O<|nZ<|rZ<|tkZ h (λhg2 h=>aa<|aC O O hg2<|mvZ (iZ<|x+1) O<|nZ ?_))))))))
  exact⟨((carry1 / 2^(Int.toNat 32)),(d / 2^(Int.toNat 63)),(x+1),(b6 u1 ((uo:Int)+x)<|IntKind.wrap .u32 d)),(am (aP<|fZ<|fZ<|fZ<|fn)<|sn),h⟩
 exact xsZ<|af<|mvZ (.int .u64 borrow) O<|aa<|cu O O<|asZ (.bool<|borrow == 1) O<|aD<|gv1 (hfr _ O)<|hQ _ _ h
theorem lx {u:List Int} {uo:Nat} {ul:Nat} {v:List Int} {q0 k0 g0:Nat} {Q:List Int->Prop} (h:gA u uo ul v Q) (hQ:∀r1,Q r1->R (.tuple []) (stX S [(q0,k0,.arr 1 (List.map (AV.int .u32) r1),g0)])) :
  Ctr Try.prog 69 [.sl 1 q0 k0 g0 uo ul,ac v] (stX S [(q0,k0,.arr 1 (List.map (AV.int .u32) u),g0)]) R:=by
 refine aL Try.func69 rfl Try.ntmps69 Try.results69 krZ (λrg hrg=>?_)
 have hdx:DX [(q0,k0,.arr 1 (List.map (AV.int .u32) u),g0)]:=dx1
 have hfr:=λX' e=>gp (S:=S) (rg:=rg) (X:=[(q0,k0,.arr 1 (List.map (AV.int .u32) u),g0)]) (X':=X') e hrg
 have hne0:=jp hdx hrg 0 rfl
 refine af<|asZ (.int .u64 0) O<|aT<|mvZ (.sl 1 q0 k0 g0 uo ul) O<|aa<|dM aG O<|mvZ (iZ 0) O<|nZ<|bZ<|lpZ h (λy=>aR [(0,.sl 1 q0 k0 g0 uo ul),(1,ac v),(4,.int .u64 y.1),(7,iZ (ul:Int)),(8,iZ y.2.1)]) (λy=>stL (stX S [(q0,k0,.arr 1 (List.map (AV.int .u32) y.2.2),g0)]) rg []) (am (aP<|fZ<|fn)<|sn) (λy _ h=>?_)
 obtain⟨carry,x,u1⟩:=y
 refine af<|aa<|bc O O<|nZ<|qZ<|cZ h O (λhb h=>?_) (λhb h=>?_)
 ·refine kZ<|qZ<|bZ<|af<|mvZ (iZ x) O<|asZ (iZ x) O<|nZ<|qZ<|tkZ h (λhi h=>tkZ h (λhg h=>?_))
  obtain⟨r,hc,h⟩:=h
  refine Vc.drawn' bR rg (gV [(8,pc (.int .u64 r))]) krZ<|dP O O<|ak (v:=.int .u64 carry) O<|dP O O<|ak (v:=.sl 1 q0 k0 g0 uo ul) O<|dP O O<|ak (v:=iZ x) O<|dP O O<|mK aG a_ dZ O O hi<|dL (E:=([(q0,k0)],[])) O O (by simp) (cfn) (db (atX hne0 hdx 0 O) a_ dG O (hg) O (v:=.int .u32 (at' u1<|(uo:Int)+x)) O (dP O O<|bb cE cR O<|dP O O<|ak (v:=ac v) O<|dP O O<|ak (v:=iZ x) O<|dC (vs:=[ac v,iZ x]) O (vZ<|vZ<|vn) (λ_=>bV hc (λ_ hr=>⟨by rw[hr],rfl⟩)) O<|dP O O<|jj O O<|dP O O<|jj O O<|dP O O<|aO (v:=.int .u64 (IntKind.wrap .u64<|carry+(IntKind.wrap .u64<|(IntKind.wrap .u64<|at' u1<|(uo:Int)+x)+r))) O (dN<|af<|mvZ (.sl 1 q0 k0 g0 uo ul) O<|mvZ (iZ x) O<|mvZ (.int .u64<|IntKind.wrap .u64<|carry+(IntKind.wrap .u64<|(IntKind.wrap .u64<|at' u1<|(uo:Int)+x)+r)) O (aa<|bb cR cE O<|tkZ h (λhi1 h=>aa<|mK aG a_ dZ O O hi1<|tkZ h (λhg1 h=>aa<|bU (atX hne0 hdx 0 O) a_ dZ (x':=(IntKind.wrap .u32<|IntKind.wrap .u64<|carry+(IntKind.wrap .u64<|(IntKind.wrap .u64<|at' u1<|(uo:Int)+x)+r))) (λ_=>O) O O (hg1) O O (vN hne0 hdx 0 O O)<|nZ<|rZ<|mvZ (.int .u64<|IntKind.wrap .u64<|carry+(IntKind.wrap .u64<|(IntKind.wrap .u64<|at' u1<|(uo:Int)+x)+r)) O (aa<|eQ O O dZ<|stZ h (λcarry1 hs h=>?_))))))))
  exact wZ rg<|aO (v:=.int .u64 carry1) (by subst hs;rfl)<|nZ<|rZ<|tkZ h (λhg2 h=>aa<|aC O O hg2<|mvZ (iZ<|x+1) O<|nZ<|⟨(carry1,(x+1),(b6 u1 ((uo:Int)+x)<|IntKind.wrap .u32<|IntKind.wrap .u64<|carry+(IntKind.wrap .u64<|(IntKind.wrap .u64<|at' u1<|(uo:Int)+x)+r))),(am (aP<|fZ<|fn)<|sn),h⟩)
 exact xsZ<|gv0 (hfr _ O)<|hQ _ h
theorem kG {a:List Int} {n:Int} {Q:List Int->Prop} (h:ez a n Q) (hQ:∀r1,Q r1->R (ac r1) S) :
  Ctr Try.prog 70 [ac a,iZ n] S R:=by
 refine aL Try.func70 rfl Try.ntmps70 Try.results70 krZ (λrg hrg=>?_)
 refine af<|asZ .nil O<|aT<|mvZ (ac a) O<|aa<|aB aG O<|tkZ h (λhg h=>wZ rg<|gy aG eX ec (enc:=AV.int .u32) (z':=0) cC (kk:=1) O O O hg (λg1=>asZ (.sl 1 rg 9 g1 0<|Int.toNat (a.length:Int)) O<|nZ<|qZ<|af<|mvZ (ac a) O<|aa<|aB aG O<|mvZ (iZ 0) O<|nZ<|bZ<|lpZ h (λy=>aR [(0,ac a),(1,iZ n),(5,.sl 1 rg 9 g1 0 y.2.length),(11,iZ (a.length:Int)),(12,iZ y.1)]) (λy=>stL S rg [(9,.arr 1 (List.map (AV.int .u32) y.2),g1)]) (am (fZ<|fZ<|fc (VW.slen lzZ)<|fZ<|fZ<|fn)<|sc O<|sn) (λy _ h=>?_)))
 obtain⟨x,out⟩:=y
 refine af<|aa<|bc O O<|nZ<|qZ<|cZ h O (λhb h=>?_) (λhb h=>?_)
 ·exact kZ<|qZ<|bZ<|af<|mvZ (iZ x) O<|asZ (iZ x) O<|nZ<|rZ<|mvZ (.sl 1 rg 9 g1 0 out.length) O<|mvZ (iZ x) O<|mvZ (ac a) O<|mvZ (iZ x) O<|aa<|clZ O<|bV h λr h=>mvZ (ac a) O<|mvZ (iZ x) O<|tkZ h (λhg1 h=>aa<|aC O O hg1<|aa<|clZ O<|bV h λr1 h=>aa<|ji O O dZ<|aa<|oW O O<|mvZ (iZ n) O<|tkZ h (λhg2 h=>aa<|eQ O O hg2<|aa<|bb cR cE O<|tkZ h (λhi h=>aa<|bI aG a_ dZ O O hi<|aa<|bU (aZ 9 O) a_ dZ (x':=(IntKind.wrap .u32<|(bits .or .u64 r<|IntKind.wrap .u64<|r1*2^(Int.toNat 32)) / 2^(Int.toNat n))) (λ_=>O) O O (de hi lzZ) O O ba<|nZ<|rZ<|tkZ h (λhg3 h=>aa<|aC O O hg3<|mvZ (iZ<|x+1) O<|nZ<|⟨((x+1),(b6 out x<|IntKind.wrap .u32<|(bits .or .u64 r<|IntKind.wrap .u64<|r1*2^(Int.toNat 32)) / 2^(Int.toNat n))),(am (fZ<|fZ<|fc (VW.slen lzZ)<|fZ<|fZ<|fn)<|sc O<|sn),h⟩))))
 exact xsZ<|af<|mvZ (.sl 1 rg 9 g1 0 out.length) O<|asZ (.sl 1 rg 9 g1 0 out.length) O<|aD<|an (v:=.sl 1 rg 9 g1 0 out.length) O<|aI<|bK (k:=9) (xs:=List.map (AV.int .u32) out) O (v':=ac out) (a8 O)<|goZ hrg<|hQ _ h
theorem fQ {a:List Int} {b:List Int} {Q:List Int->List Int->Option Int->Prop} (h:ep a b Q) (hQ:∀r1 r2 r3,Q r1 r2 r3->R (.tuple [ac r1,ac r2,aW 62 r3]) S) :
  Ctr Try.prog 54 [ac a,ac b] S R:=by
 refine aL Try.func54 rfl Try.ntmps54 Try.results54 krZ (λrg hrg=>?_)
 refine af<|asZ .nil O<|asZ .nil O<|asZ .niface O<|aT<|mvZ (ac a) O<|aa<|clZ O<|bg h λa1 h=>mvZ (ac b) O<|aa<|clZ O<|bg h λb1 h=>asZ (ac a1) O<|asZ (ac b1) O<|nZ<|qZ<|af<|mvZ (ac b1) O<|aa<|aB aG O<|aa<|cu O O<|nZ<|cZ h O (λhb h=>?_) (λhb h=>?_)
 ·exact af<|aa<|bW (by rw[fX];trivial) (v:=iZ 8) O<|asZ .nil O<|asZ .nil O<|asZ (.iface 62<|iZ 8) O<|aD<|an (v:=.nil) O<|an (v:=.nil) O<|an (v:=.iface 62 (iZ 8)) O<|aI<|aJ hrg (VW.tupL<|vl' (VW.nilL)<|vl' (VW.nilL)<|vZ<|vn)<|hQ _ _ _ h
 refine kZ<|qZ<|af<|mvZ (ac a1) O<|mvZ (ac b1) O<|aa<|clZ O<|du h λr h=>aa<|bc O O<|nZ<|cZ h O (λhb1 h=>?_) (λhb1 h=>?_)
 ·exact af<|mvZ (ac a1) O<|asZ .nil O<|asZ (ac a1) O<|asZ .niface O<|aD<|an (v:=.nil) O<|an (v:=ac a1) O<|an (v:=.niface) O<|aI<|aJ hrg (VW.tupL<|vl' (VW.nilL)<|vZ<|vZ<|vn)<|hQ _ _ _ h
 refine kZ<|qZ<|af<|mvZ (ac b1) O<|aa<|aB aG O<|aa<|cu O O<|nZ<|cZ h O (λhb2 h=>?_) (λhb2 h=>?_)
 ·exact af<|mvZ (ac a1) O<|mvZ (ac b1) O<|tkZ h (λhg h=>aa<|aQ aG a_ dZ (λ_=>O) O O hg<|aa<|aN a_ dG O O (v:=.int .u32 (at' b1 0)) O<|aa<|clZ O<|kF h λr1 r2 h=>mvZ (.tuple [ac r1,.int .u32 r2]) O<|aa<|aj (v:=ac r1) O O O<|aa<|aj (v:=.int .u32 r2) O O O<|asZ (ac r1) O<|asZ (.int .u32 r2) O<|aT<|mvZ (ac r1) O<|mvZ (.int .u32 r2) O<|aa<|bb cE td3 O<|aa<|clZ O<|jl h λr3 h=>asZ (ac r1) O<|asZ (ac r3) O<|asZ .niface O<|aD<|an (v:=ac r1) O<|an (v:=ac r3) O<|an (v:=.niface) O<|aI<|aJ hrg (VW.tupL<|vZ<|vZ<|vZ<|vn)<|hQ _ _ _ h)
 refine kZ<|af<|mvZ (ac b1) O<|mvZ (ac b1) O<|aa<|aB aG O<|tkZ h (λhg1 h=>aa<|bC O O hg1<|tkZ h (λhg2 h=>aa<|aQ aG a_ dZ (λ_=>O) O O hg2<|aa<|aN a_ dG O O (v:=.int .u32 (at' b1<|(b1.length:Int)-1)) O (aa<|clZ O<|fR h λn h=>asZ (iZ n) O<|aT<|mvZ (ac b1) O<|mvZ (iZ n) O<|aa<|clZ O<|lw h λr4 h=>mvZ (ac b1) O<|aa<|aB aG O<|tkZ h (λhg3 h=>aa<|jh aG a_ dZ (λ_=>O) O (l:=0) (h:=(b1.length:Int)) O O hg3<|stZ h (λv hs h=>wZ rg<|aO (v:=ac v) (by subst hs;rfl)<|aT<|mvZ (ac a1) O<|mvZ (iZ n) O<|aa<|clZ O<|kH rg 61 h λu g1 h=>lM ba<|asZ (.sl 1 rg 61 g1 0 u.length) O<|nZ<|qZ<|tkZ h (λhg4 h=>tkZ h (λhg5 h=>tkZ h (λhg6 h=>tkZ h (λhg7 h=>Vc.drawn' bR rg (λ_=>fH) krZ<|dP O O<|ak (v:=ac v) O<|dP O O<|ak (v:=ac v) O<|dP O O<|aB aG O<|dP O O<|bC O O hg4<|dP O O<|aQ aG a_ dZ (λ_=>O) O O hg5<|dP O O<|aN a_ dG O O (v:=.int .u32 (at' v<|(v.length:Int)-1)) O (dP O O<|bb cE cR O<|dP O O<|ak (v:=ac v) O<|dP O O<|ak (v:=ac v) O<|dP O O<|aB aG O<|dP O O<|bC O O hg6<|dP O O<|aQ aG a_ dZ (λ_=>O) O O hg7 ?_))))))))))
 refine dP O O<|aN a_ dG O O (v:=.int .u32 (at' v<|(v.length:Int)-2)) O (dP O O<|bb cE cR O<|dP O O<|aO (v:=.int .u64 (IntKind.wrap .u64<|at' v<|(v.length:Int)-1)) O (dP O O<|aO (v:=.int .u64 (IntKind.wrap .u64<|at' v<|(v.length:Int)-2)) O (dN<|af<|mvZ (.sl 1 rg 61 g1 0 u.length) O<|aa<|dM aG O<|mvZ (ac v) O<|aa<|aB aG O<|tkZ h (λhg8 h=>aa<|bC O O hg8<|tkZ h (λhg9 h=>wZ rg<|gy aG eX ec (enc:=AV.int .u32) (z':=0) cC (kk:=1) O O O hg9 (λg2=>asZ (.sl 1 rg 81 g2 0<|Int.toNat<|(u.length:Int)-(v.length:Int)) O<|nZ<|qZ<|af<|mvZ (.sl 1 rg 81 g2 0<|Int.toNat<|(u.length:Int)-(v.length:Int)) O<|aa<|dM aG O<|tkZ h (λhg10 h=>aa<|bC O O hg10<|stZ h (λj hs1 h=>wZ rg<|aO (v:=iZ j) (by subst hs1;rfl)<|nZ<|bZ<|lgZ h (g1,g2) (λy=>aR [(4,.sl 1 rg 81 y.2.2 0 y.1.2.2.length),(9,iZ n),(10,ac v),(11,.sl 1 rg 61 y.2.1 0 y.1.2.1.length),(12,.int .u64 (IntKind.wrap .u64<|at' v<|(v.length:Int)-1)),(13,.int .u64 (IntKind.wrap .u64<|at' v<|(v.length:Int)-2)),(14,iZ y.1.1)]) (λy=>stL S rg [(61,.arr 1 (List.map (AV.int .u32) y.1.2.1),y.2.1),(81,.arr 1 (List.map (AV.int .u32) y.1.2.2),y.2.2)]) (am (fc (VW.slen lzZ)<|aP<|fZ<|fZ<|fn)<|sc O<|sc O<|sn) (λy _ h=>?_)))))))))
 obtain⟨⟨j1,u1,q⟩,⟨g3,g4⟩⟩:=y
 refine qZ<|af<|mvZ (iZ j1) O<|aa<|eo O O<|nZ<|cZ h O (λhb3 h=>?_) (λhb3 h=>?_)
 ·refine kZ<|qZ<|bZ<|qZ<|tkZ h (λhg11 h=>tkZ h (λhi h=>tkZ h (λhg12 h=>tkZ h (λhg13 h=>tkZ h (λhi1 h=>Vc.drawn' bR rg (λ_=>fH) krZ<|dP O O<|ak (v:=.sl 1 rg 61 g3 0 u1.length) O<|dP O O<|ak (v:=iZ j1) O<|dP O O<|ak (v:=ac v) O<|dP O O<|aB aG O<|dP O O<|aC O O hg11<|dP O O<|bI aG a_ dZ O O hi<|dL (E:=([(rg,61)],[])) O O (by simp) (cfn) (db (aZ 61 O) a_ dG O (de hi lzZ) O (v:=.int .u32 (at' u1<|j1+(v.length:Int))) O (dP O O<|bb cE cR O<|dP O O<|ji O O dZ<|dP O O<|ak (v:=.sl 1 rg 61 g3 0 u1.length) O<|dP O O<|ak (v:=iZ j1) O<|dP O O<|ak (v:=ac v) O<|dP O O<|aB aG O<|dP O O<|aC O O hg12<|dP O O<|bC O O hg13<|dP O O<|bI aG a_ dZ O O hi1<|dL (E:=([(rg,61)],[])) O O (by simp) (cfa (by simp[a9])<|cfn) (db (aZ 61 O) a_ dG O (de hi1 lzZ) O (v:=.int .u32 (at' u1<|(j1+(v.length:Int))-1)) O (dP O O<|bb cE cR O<|dP O O<|oW O O<|dP O O<|aO (v:=.int .u64 (bits .or .u64 (IntKind.wrap .u64<|(IntKind.wrap .u64<|at' u1<|j1+(v.length:Int))*2^(Int.toNat 32)) (IntKind.wrap .u64<|at' u1<|(j1+(v.length:Int))-1))) O (dN<|qZ<|tkZ h (λhg14 h=>tkZ h (λhg15 h=>Vc.drawn' bR rg (λ_=>fH) krZ ?_))))))))))))
  refine dP O O<|ak (v:=.int .u64 (bits .or .u64 (IntKind.wrap .u64<|(IntKind.wrap .u64<|at' u1<|j1+(v.length:Int))*2^(Int.toNat 32)) (IntKind.wrap .u64<|at' u1<|(j1+(v.length:Int))-1))) O (dP O O<|ak (v:=.int .u64 (IntKind.wrap .u64<|at' v<|(v.length:Int)-1)) O (dP O O<|rh O O hg14<|dP O O<|ak (v:=.int .u64 (bits .or .u64 (IntKind.wrap .u64<|(IntKind.wrap .u64<|at' u1<|j1+(v.length:Int))*2^(Int.toNat 32)) (IntKind.wrap .u64<|at' u1<|(j1+(v.length:Int))-1))) O (dP O O<|ak (v:=.int .u64 (IntKind.wrap .u64<|at' v<|(v.length:Int)-1)) O (dP O O<|vg O O hg15<|dP O O<|aO (v:=.int .u64 (IntKind.wrap .u64<|Int.tdiv (bits .or .u64 (IntKind.wrap .u64<|(IntKind.wrap .u64<|at' u1<|j1+(v.length:Int))*2^(Int.toNat 32)) (IntKind.wrap .u64<|at' u1<|(j1+(v.length:Int))-1)) (IntKind.wrap .u64<|at' v<|(v.length:Int)-1))) O (dP O O<|aO (v:=.int .u64 (Int.tmod (bits .or .u64 (IntKind.wrap .u64<|(IntKind.wrap .u64<|at' u1<|j1+(v.length:Int))*2^(Int.toNat 32)) (IntKind.wrap .u64<|at' u1<|(j1+(v.length:Int))-1)) (IntKind.wrap .u64<|at' v<|(v.length:Int)-1))) O (dN ?_))))))
  refine jgZ (γ:=Nat×Nat) h (λy=>aR [(4,.sl 1 rg 81 y.2.2 0 q.length),(9,iZ n),(10,ac v),(11,.sl 1 rg 61 y.2.1 0 u1.length),(12,.int .u64 (IntKind.wrap .u64<|at' v<|(v.length:Int)-1)),(13,.int .u64 (IntKind.wrap .u64<|at' v<|(v.length:Int)-2)),(14,iZ j1),(16,.int .u64 y.1)]) (λy=>stL S rg [(61,.arr 1 (List.map (AV.int .u32) u1),y.2.1),(81,.arr 1 (List.map (AV.int .u32) q),y.2.2)]) (λy h=>?_) (λ_ h=>?_)
  ·obtain⟨guess,⟨g5,g6⟩⟩:=y
   refine jgZ (γ:=Nat×Nat) h (λy=>aR [(4,.sl 1 rg 81 y.2.2 0 q.length),(9,iZ n),(10,ac v),(11,.sl 1 rg 61 y.2.1 0 y.1.2.length),(12,.int .u64 (IntKind.wrap .u64<|at' v<|(v.length:Int)-1)),(13,.int .u64 (IntKind.wrap .u64<|at' v<|(v.length:Int)-2)),(14,iZ j1),(16,.int .u64 y.1.1)]) (λy=>stL S rg [(61,.arr 1 (List.map (AV.int .u32) y.1.2),y.2.1),(81,.arr 1 (List.map (AV.int .u32) q),y.2.2)]) (λy h=>?_) (λ_ h=>?_)
   ·obtain⟨⟨guess1,u2⟩,⟨g7,g8⟩⟩:=y
    exact rZ<|mvZ (.sl 1 rg 81 g8 0 q.length) O<|mvZ (iZ j1) O<|mvZ (.int .u64 guess1) O<|aa<|bb cR cE O<|tkZ h (λhi2 h=>aa<|bI aG a_ dZ O O hi2<|aa<|bU (aZ 81 O) a_ dZ (x':=(IntKind.wrap .u32 guess1)) (λ_=>O) O O (de hi2 lzZ) O O ba<|nZ<|rZ<|mvZ (iZ j1) O<|tkZ h (λhg16 h=>aa<|bC O O hg16<|asZ (iZ<|j1-1) O<|nZ<|⟨(((j1-1),u2,(b6 q j1<|IntKind.wrap .u32 guess1)),(g7,g8)),(am (fc (VW.slen lzZ)<|aP<|fZ<|fZ<|fn)<|sc O<|sc O<|sn),h⟩))
   refine af<|mvZ (.sl 1 rg 61 g5 0 u1.length) O<|mvZ (iZ j1) O<|mvZ (iZ j1) O<|mvZ (ac v) O<|aa<|aB aG O<|tkZ h (λhg17 h=>aa<|aC O O hg17<|tkZ h (λhg18 h=>aa<|aC O O hg18<|tkZ h (λhsl h=>aa<|pO aG a_ dZ O (l:=j1) (h:=((j1+(v.length:Int))+1)) O O hsl (mvZ (ac v) O<|mvZ (.int .u64 guess) O<|aa<|clZ O<|tR (oe<|aZ 61 O)<|lv h λu3 r5 h=>lM ba<|tkZ h (λhl h=>nZ<|cZ h O (λhb4 h=>?_) (λhb4 h=>?_))))))
   ·exact af<|mvZ (.int .u64 guess) O<|aa<|jN O O<|asZ (.int .u64<|IntKind.wrap .u64<|guess-1) O<|nZ<|rZ<|mvZ (.sl 1 rg 61 g5 0 u1.length) O<|mvZ (iZ j1) O<|mvZ (iZ j1) O<|mvZ (ac v) O<|aa<|aB aG O<|tkZ h (λhg19 h=>aa<|aC O O hg19<|tkZ h (λhg20 h=>aa<|aC O O hg20<|tkZ h (λhsl1 h=>aa<|pO aG a_ dZ O (l:=j1) (h:=((j1+(v.length:Int))+1)) O O hsl1 (mvZ (ac v) O<|aa<|clZ O<|tR (oe<|aZ 61 O)<|lx h λu4 h=>lM ba<|tkZ h (λhl1 h=>nZ<|⟨(((IntKind.wrap .u64<|guess-1),u4),(g5,g6)),(am (fZ<|fZ<|fZ<|fc (VW.slen lzZ)<|aP<|fn)<|sc O<|sc O<|sn),h⟩)))))
   exact kZ<|⟨((guess,u3),(g5,g6)),(am (fZ<|fZ<|fZ<|fc (VW.slen lzZ)<|aP<|fn)<|sc O<|sc O<|sn),h⟩
  refine bZ<|lgZ h (g3,g4) (λy=>aR [(4,.sl 1 rg 81 y.2.2 0 q.length),(9,iZ n),(10,ac v),(11,.sl 1 rg 61 y.2.1 0 u1.length),(12,.int .u64 (IntKind.wrap .u64<|at' v<|(v.length:Int)-1)),(13,.int .u64 (IntKind.wrap .u64<|at' v<|(v.length:Int)-2)),(14,iZ j1),(16,.int .u64 y.1.1),(17,.int .u64 y.1.2)]) (λy=>stL S rg [(61,.arr 1 (List.map (AV.int .u32) u1),y.2.1),(81,.arr 1 (List.map (AV.int .u32) q),y.2.2)]) (am (aP<|aP<|fZ<|fn)<|sc O<|sc O<|sn) (λy _ h=>?_)
  obtain⟨⟨guess2,rest⟩,⟨g9,g10⟩⟩:=y
  refine jgZ (γ:=Nat×Nat) h (λy=>aR [(4,.sl 1 rg 81 y.2.2 0 q.length),(9,iZ n),(10,ac v),(11,.sl 1 rg 61 y.2.1 0 u1.length),(12,.int .u64 (IntKind.wrap .u64<|at' v<|(v.length:Int)-1)),(13,.int .u64 (IntKind.wrap .u64<|at' v<|(v.length:Int)-2)),(14,iZ j1),(16,.int .u64 guess2),(17,.int .u64 rest)]) (λy=>stL S rg [(61,.arr 1 (List.map (AV.int .u32) u1),y.2.1),(81,.arr 1 (List.map (AV.int .u32) q),y.2.2)]) (λy h=>?_) (λ_ h=>?_)
  ·obtain⟨_,⟨g11,g12⟩⟩:=y
   refine bZ<|af<|mvZ (.int .u64 guess2) O<|aa<|jN O O<|asZ (.int .u64<|IntKind.wrap .u64<|guess2-1) O<|aT<|mvZ (.int .u64 rest) O<|mvZ (.int .u64<|IntKind.wrap .u64<|at' v<|(v.length:Int)-1) O<|aa<|jj O O<|stZ h (λrest1 hs2 h=>wZ rg<|aO (v:=.int .u64 rest1) (by subst hs2;rfl)<|aT<|mvZ (.int .u64 rest1) O<|aa<|eo O O<|nZ<|cZ h O (λhb5 h=>?_) (λhb5 h=>?_))
   ·exact xnZ O<|p_<|⟨((IntKind.wrap .u64<|guess2-1),(g11,g12)),(am (aP<|aP<|fn)<|sc O<|sc O<|sn),h⟩
   exact kZ<|⟨(((IntKind.wrap .u64<|guess2-1),rest1),(g11,g12)),(am (aP<|aP<|fZ<|fn)<|sc O<|sc O<|sn),h⟩
  refine af<|mvZ (.int .u64 guess2) O<|aa<|eo O O<|mvZ (.bool<|decide<|4294967296<=guess2) O<|gfZ h O O (λhb6 h=>?_) (λhb6 h=>?_)
  ·refine mvZ (.int .u64 guess2) O<|gTZ O O hb6<|mvZ (.int .u64<|IntKind.wrap .u64<|at' v<|(v.length:Int)-2) O<|gTZ O O hb6<|aa<|pP O O<|gTZ O O hb6<|mvZ (.int .u64 rest) O<|gTZ O O hb6<|aa<|ji O O dZ<|gTZ O O hb6<|mvZ (.sl 1 rg 61 g9 0 u1.length) O<|gTZ O O hb6<|mvZ (iZ j1) O<|gTZ O O hb6<|mvZ (ac v) O<|gTZ O O hb6<|aa<|aB aG O<|gTZ O O hb6<|tkZ h (λhg21 h=>aa<|aC O O hg21<|gTZ O O hb6<|tkZ h (λhg22 h=>aa<|bC O O hg22<|gTZ O O hb6<|tkZ h (λhi3 h=>aa<|bI aG a_ dZ O O hi3<|gTZ O O hb6<|aa<|db (aZ 61 O) a_ dG O (de hi3 lzZ) O (v:=.int .u32 (at' u1<|(j1+(v.length:Int))-2)) O (gTZ O O hb6<|aa<|bb cE cR O<|gTZ O O hb6<|aa<|oW O O<|gTZ O O hb6<|aa<|eb O O<|aa<|aE O hb6 (v:=.bool (decide<|(bits .or .u64 (IntKind.wrap .u64<|rest*2^(Int.toNat 32))<|IntKind.wrap .u64<|at' u1<|(j1+(v.length:Int))-2)<(IntKind.wrap .u64<|guess2*(IntKind.wrap .u64<|at' v<|(v.length:Int)-2)))) O (nZ<|cZ h O (λhb7 h=>?_) (λhb7 h=>?_))))))
   ·exact kZ<|⟨((),(g9,g10)),(am (aP<|aP<|fZ<|fn)<|sc O<|sc O<|sn),h⟩
   exact xsZ<|⟨(guess2,(g9,g10)),(am (aP<|aP<|fn)<|sc O<|sc O<|sn),h⟩
  exact gFZ O O hb6 O<|gFZ O O hb6 O<|gFZ O O hb6 O<|gFZ O O hb6 O<|gFZ O O hb6 O<|gFZ O O hb6 O<|gFZ O O hb6 O<|gFZ O O hb6 O<|gFZ O O hb6 O<|gFZ O O hb6 O<|gFZ O O hb6 O<|gFZ O O hb6 O<|gFZ O O hb6 O<|gFZ O O hb6 O<|gFZ O O hb6 O<|aa<|aM O hb6 (v:=.bool true) O<|nZ<|cTZ O O<|kZ<|⟨((),(g9,g10)),(am (aP<|aP<|fZ<|fn)<|sc O<|sc O<|sn),h⟩
 exact xsZ<|af<|mvZ (.sl 1 rg 81 g4 0 q.length) O<|dX (aU (k:=81) (xs:=List.map (AV.int .u32) q) O (es:=[(9,iZ n),(11,.sl 1 rg 61 g3 0 u1.length),(169,ac q)]) (fZ<|fc (ia O)<|fc (a8 O)<|fn) (m:=[(61,.arr 1 (List.map (AV.int .u32) u1),g3)]) (sc O<|sn)) (aa<|clZ O<|bg h λq1 h=>mvZ (.sl 1 rg 61 g3 0 u1.length) O<|mvZ (iZ n) O<|dX (aU (k:=61) (xs:=List.map (AV.int .u32) u1) O (es:=[(170,ac q1),(171,ac u1),(172,iZ n)]) (fZ<|fc (a8 O)<|fZ<|fn) (m:=[]) (sn)) (aa<|clZ O<|kG h λr6 h=>aa<|clZ O<|bg h λr7 h=>asZ (ac q1) O<|asZ (ac r7) O<|asZ .niface O<|aD<|an (v:=ac q1) O<|an (v:=ac r7) O<|an (v:=.niface) O<|aI<|aJ hrg (VW.tupL<|vZ<|vZ<|vZ<|vn)<|hQ _ _ _ h))
theorem iX {a:List Int} {b:List Int} {Q:List Int->Prop} (h:fu a b Q) (hQ:∀r1,Q r1->R (ac r1) S) :
  Ctr Try.prog 51 [ac a,ac b] S R:=by
 refine aL Try.func51 rfl Try.ntmps51 Try.results51 krZ (λrg hrg=>?_)
 refine af<|asZ .nil O<|aT<|mvZ (ac a) O<|aa<|clZ O<|bg h λa1 h=>mvZ (ac b) O<|aa<|clZ O<|bg h λb1 h=>asZ (ac a1) O<|asZ (ac b1) O<|nZ<|qZ<|bZ<|lpZ h (λy=>aR [(0,ac y.1),(1,ac y.2)]) (λy=>stL S rg []) (am (fZ<|fZ<|fn)<|sn) (λy _ h=>?_)
 obtain⟨a2,b2⟩:=y
 refine qZ<|af<|mvZ (ac b2) O<|aa<|aB aG O<|aa<|eb O O<|nZ<|cZ h O (λhb h=>?_) (λhb h=>?_)
 ·exact kZ<|bZ<|af<|mvZ (ac a2) O<|mvZ (ac b2) O<|aa<|clZ O<|fQ h λr r1 r2 h=>mvZ (.tuple [ac r,ac r1,aW 62 r2]) O<|aa<|aj (v:=ac r) O O O<|aa<|aj (v:=ac r1) O O O<|aa<|aj (v:=aW 62 r2) O O O<|asZ (ac r) O<|asZ (ac r1) O<|asZ (aW 62 r2) O<|nZ<|rZ<|mvZ (ac b2) O<|mvZ (ac r1) O<|asZ (ac b2) O<|asZ (ac r1) O<|nZ<|⟨(b2,r1),(am (fZ<|fZ<|fn)<|sn),h⟩
 exact xsZ<|af<|mvZ (ac a2) O<|asZ (ac a2) O<|aD<|gv1 hrg<|hQ _ h
theorem ly {a:List Int} {Q:Int->Prop} (h:gB a Q) (hQ:∀r1,Q r1->R (iZ r1) S) :
  Ctr Try.prog 53 [ac a] S R:=by
 refine aL Try.func53 rfl Try.ntmps53 Try.results53 krZ (λrg hrg=>?_)
 refine af<|asZ (iZ 0) O<|nZ<|qZ<|af<|mvZ (ac a) O<|aa<|aB aG O<|tkZ h (λhg h=>aa<|bC O O hg<|asZ (iZ<|(a.length:Int)-1) O<|nZ<|bZ<|lpZ h (λy=>aR [(0,ac a),(3,iZ y)]) (λy=>stL S rg []) (am (fZ<|fZ<|fn)<|sn) (λi _ h=>qZ<|af<|mvZ (iZ i) O<|aa<|eo O O<|nZ<|cZ h O (λhb h=>?_) (λhb h=>?_)))
 ·refine kZ<|qZ<|bZ<|af<|mvZ (ac a) O<|mvZ (iZ i) O<|tkZ h (λhg1 h=>aa<|aQ aG a_ dZ (λ_=>O) O O hg1<|aa<|aN a_ dG O O (v:=.int .u32 (at' a i)) O<|aa<|dD O O<|nZ<|cZ h O (λhb1 h=>?_) (λhb1 h=>?_))
  ·exact af<|mvZ (iZ i) O<|tkZ h (λhg2 h=>aa<|qx O O hg2<|mvZ (ac a) O<|mvZ (iZ i) O<|tkZ h (λhg3 h=>aa<|aQ aG a_ dZ (λ_=>O) O O hg3<|aa<|aN a_ dG O O (v:=.int .u32 (at' a i)) O<|aa<|clZ O<|fW h λr h=>tkZ h (λhg4 h=>aa<|aC O O hg4<|asZ (iZ<|(32*i)+r) O<|aD<|gv1 hrg<|hQ _ h)))
  exact kZ<|rZ<|mvZ (iZ i) O<|tkZ h (λhg5 h=>aa<|bC O O hg5<|asZ (iZ<|i-1) O<|nZ<|⟨(i-1),(am (fZ<|fZ<|fn)<|sn),h⟩)
 exact xsZ<|af<|asZ (iZ 0) O<|aD<|gv1 hrg<|hQ _ h
theorem cA {a:List Int} {b:List Int} {Q:List Int->Prop} (h:bY a b Q) (hQ:∀r1,Q r1->R (ac r1) S) :
  Ctr Try.prog 39 [ac a,ac b] S R:=by
 refine aL Try.func39 rfl Try.ntmps39 Try.results39 krZ (λrg hrg=>?_)
 refine af<|asZ .nil O<|aT<|mvZ (ac a) O<|aa<|aB aG O<|mvZ (ac b) O<|aa<|aB aG O<|tkZ h (λhg h=>aa<|aC O O hg<|tkZ h (λhg1 h=>wZ rg<|gy aG eX ec (enc:=AV.int .u32) (z':=0) cC (kk:=1) O O O hg1 (λg1=>asZ (.sl 1 rg 16 g1 0<|Int.toNat<|(a.length:Int)+(b.length:Int)) O (nZ<|qZ<|af<|mvZ (ac a) O<|aa<|aB aG O<|mvZ (iZ 0) O<|nZ<|bZ<|lpZ h (λy=>aR [(1,ac b),(5,.sl 1 rg 16 g1 0 y.2.length),(17,ac a),(18,iZ (a.length:Int)),(19,iZ y.1)]) (λy=>stL S rg [(16,.arr 1 (List.map (AV.int .u32) y.2),g1)]) (am (fZ<|fc (VW.slen lzZ)<|fZ<|fZ<|fZ<|fn)<|sc O<|sn) (λy _ h=>?_)))))
 obtain⟨x,out⟩:=y
 refine af<|aa<|bc O O<|nZ<|qZ<|cZ h O (λhb h=>?_) (λhb h=>?_)
 ·refine kZ<|qZ<|bZ<|af<|mvZ (iZ x) O<|tkZ h (λhg2 h=>aa<|aQ aG a_ dZ (λ_=>O) O O hg2<|aa<|aN a_ dG O O (v:=.int .u32 (at' a x)) O<|asZ (iZ x) O<|asZ (.int .u32<|at' a x) O<|aT<|asZ (.int .u64 0) O<|nZ<|qZ<|af<|mvZ (ac b) O<|aa<|aB aG O<|mvZ (iZ 0) O<|nZ<|bZ<|lpZ h (λy=>aR [(1,ac b),(5,.sl 1 rg 16 g1 0 y.2.2.length),(6,iZ x),(7,.int .u32 (at' a x)),(8,.int .u64 y.1),(17,ac a),(18,iZ (a.length:Int)),(19,iZ x),(24,ac b),(25,iZ (b.length:Int)),(26,iZ y.2.1)]) (λy=>stL S rg [(16,.arr 1 (List.map (AV.int .u32) y.2.2),g1)]) (am (aP<|aP<|fZ<|fZ<|fZ<|fn)<|sc O<|sn) (λy _ h=>?_))
  obtain⟨carry,x1,out1⟩:=y
  refine af<|aa<|bc O O<|nZ<|qZ<|cZ h O (λhb1 h=>?_) (λhb1 h=>?_)
  ·refine kZ<|qZ<|bZ<|af<|mvZ (iZ x1) O<|tkZ h (λhg3 h=>aa<|aQ aG a_ dZ (λ_=>O) O O hg3<|aa<|aN a_ dG O O (v:=.int .u32 (at' b x1)) O<|asZ (iZ x1) O<|asZ (.int .u32<|at' b x1) O<|aT<|mvZ (.int .u64 carry) O<|mvZ (.int .u32<|at' a x) O<|aa<|bb cE cR O<|mvZ (.int .u32<|at' b x1) O<|aa<|bb cE cR O<|aa<|pP O O<|mvZ (.sl 1 rg 16 g1 0 out1.length) O<|mvZ (iZ x) O<|mvZ (iZ x1) O<|tkZ h (λhg4 h=>aa<|aC O O hg4<|tkZ h (λhi h=>aa<|bI aG a_ dZ O O hi<|aa<|db (aZ 16 O) a_ dG O (de hi lzZ) O (v:=.int .u32 (at' out1<|x+x1)) O (aa<|bb cE cR O<|aa<|jj O O<|aa<|jj O O<|stZ h (λcarry1 hs h=>wZ rg<|aO (v:=.int .u64 carry1) (by subst hs;rfl)<|aT<|mvZ (.sl 1 rg 16 g1 0 out1.length) O<|mvZ (iZ x) O<|mvZ (iZ x1) O<|tkZ h (λhg5 h=>aa<|aC O O hg5<|mvZ (.int .u64 carry1) O<|aa<|bb cR cE O<|tkZ h (λhi1 h=>aa<|bI aG a_ dZ O O hi1<|aa<|bU (aZ 16 O) a_ dZ (x':=(IntKind.wrap .u32 carry1)) (λ_=>O) O O (de hi1 lzZ) O O ba<|nZ<|rZ<|mvZ (.int .u64 carry1) O<|aa<|eQ O O dZ<|asZ (.int .u64<|carry1 / 2^(Int.toNat 32)) O<|nZ<|rZ<|tkZ h (λhg6 h=>aa<|aC O O hg6<|mvZ (iZ<|x1+1) O<|nZ ?_))))))))
   exact⟨((carry1 / 2^(Int.toNat 32)),(x1+1),(b6 out1 (x+x1)<|IntKind.wrap .u32 carry1)),(am (fZ<|fc (VW.slen lzZ)<|aP<|aP<|fZ<|fn)<|sc O<|sn),h⟩
  exact xsZ<|rZ<|mvZ (.sl 1 rg 16 g1 0 out1.length) O<|mvZ (iZ x) O<|mvZ (ac b) O<|aa<|aB aG O<|tkZ h (λhg7 h=>aa<|aC O O hg7<|mvZ (.int .u64 carry) O<|aa<|bb cR cE O<|tkZ h (λhi2 h=>aa<|bI aG a_ dZ O O hi2<|aa<|bU (aZ 16 O) a_ dZ (x':=(IntKind.wrap .u32 carry)) (λ_=>O) O O (de hi2 lzZ) O O ba<|nZ<|rZ<|tkZ h (λhg8 h=>aa<|aC O O hg8<|mvZ (iZ<|x+1) O<|nZ<|⟨((x+1),(b6 out1 (x+(b.length:Int))<|IntKind.wrap .u32 carry)),(am (fZ<|fc (VW.slen lzZ)<|fZ<|fZ<|fZ<|fn)<|sc O<|sn),h⟩)))
 exact xsZ<|af<|mvZ (.sl 1 rg 16 g1 0 out.length) O<|dX (aU (k:=16) (xs:=List.map (AV.int .u32) out) O (es:=[(65,ac out)]) (fc (a8 O)<|fn) (m:=[])<|sn)<|aa<|clZ O<|bg h λr h=>asZ (ac r) O<|aD<|gv1 hrg<|hQ _ h
theorem mu {a:List Int} {b:List Int} {Q:List Int->Prop} (h:fv a b Q) (hQ:∀r1,Q r1->R (ac r1) S) :
  Ctr Try.prog 56 [ac a,ac b] S R:=by
 refine aL Try.func56 rfl Try.ntmps56 Try.results56 krZ (λrg hrg=>?_)
 refine af<|asZ .nil O<|aT<|mvZ (ac a) O<|aa<|aB aG O<|mvZ (ac b) O<|aa<|aB aG O<|aa<|ri O O<|tkZ h (λhg h=>aa<|aC O O hg<|tkZ h (λhg1 h=>wZ rg<|gy aG eX ec (enc:=AV.int .u32) (z':=0) cC (kk:=1) O O O hg1 (λg1=>asZ (.sl 1 rg 14 g1 0<|Int.toNat<|(max (a.length:Int) (b.length:Int))+1) O (aT<|asZ (.int .u64 0) O<|nZ<|qZ<|af<|mvZ (.sl 1 rg 14 g1 0<|Int.toNat<|(max (a.length:Int) (b.length:Int))+1) O (aa<|dM aG O<|mvZ (iZ 0) O<|nZ<|bZ<|lpZ h (λy=>aR [(0,ac a),(1,ac b),(5,.sl 1 rg 14 g1 0 y.2.2.length),(6,.int .u64 y.1),(16,iZ ((Int.toNat<|(max (a.length:Int) (b.length:Int))+1):Int)),(17,iZ y.2.1)]) (λy=>stL S rg [(14,.arr 1 (List.map (AV.int .u32) y.2.2),g1)]) (am (fZ<|fZ<|fc (VW.slen lzZ)<|fZ<|fZ<|fZ<|fn)<|sc O<|sn) (λy _ h=>?_))))))
 obtain⟨carry,x,out⟩:=y
 refine af<|aa<|bc O O<|nZ<|qZ<|cZ h O (λhb h=>?_) (λhb h=>?_)
 ·exact kZ<|qZ<|bZ<|af<|mvZ (iZ x) O<|asZ (iZ x) O<|aT<|mvZ (.int .u64 carry) O<|mvZ (ac a) O<|mvZ (iZ x) O<|aa<|clZ O<|bV h λr h=>mvZ (ac b) O<|mvZ (iZ x) O<|aa<|clZ O<|bV h λr1 h=>aa<|jj O O<|aa<|jj O O<|stZ h (λcarry1 hs h=>wZ rg<|aO (v:=.int .u64 carry1) (by subst hs;rfl)<|aT<|mvZ (.sl 1 rg 14 g1 0 out.length) O<|mvZ (iZ x) O<|mvZ (.int .u64 carry1) O<|aa<|bb cR cE O<|tkZ h (λhi h=>aa<|bI aG a_ dZ O O hi<|aa<|bU (aZ 14 O) a_ dZ (x':=(IntKind.wrap .u32 carry1)) (λ_=>O) O O (de hi lzZ) O O ba<|nZ<|rZ<|mvZ (.int .u64 carry1) O<|aa<|eQ O O dZ<|asZ (.int .u64<|carry1 / 2^(Int.toNat 32)) O<|nZ<|rZ<|tkZ h (λhg2 h=>aa<|aC O O hg2<|mvZ (iZ<|x+1) O<|nZ<|⟨((carry1 / 2^(Int.toNat 32)),(x+1),(b6 out x<|IntKind.wrap .u32 carry1)),(am (fZ<|fZ<|fc (VW.slen lzZ)<|fZ<|fZ<|fZ<|fn)<|sc O<|sn),h⟩)))
 exact xsZ<|af<|mvZ (.sl 1 rg 14 g1 0 out.length) O<|dX (aU (k:=14) (xs:=List.map (AV.int .u32) out) O (es:=[(37,ac out)]) (fc (a8 O)<|fn) (m:=[])<|sn)<|aa<|clZ O<|bg h λr2 h=>asZ (ac r2) O<|aD<|gv1 hrg<|hQ _ h
theorem iW {a:List Int} {b:List Int} {Q:List Int->Option Int->Prop} (h:ft a b Q) (hQ:∀r1 r2,Q r1 r2->R (.tuple [ac r1,aW 62 r2]) S) :
  Ctr Try.prog 57 [ac a,ac b] S R:=by
 refine aL Try.func57 rfl Try.ntmps57 Try.results57 krZ (λrg hrg=>?_)
 refine af<|asZ .nil O<|asZ .niface O<|nZ<|qZ<|af<|mvZ (ac a) O<|mvZ (ac b) O<|aa<|clZ O<|du h λr h=>aa<|bc O O<|nZ<|cZ h O (λhb h=>?_) (λhb h=>?_)
 ·exact af<|aa<|bW (by rw[fX];trivial) (v:=iZ 3) O<|asZ .nil O<|asZ (.iface 62<|iZ 3) O<|aD<|an (v:=.nil) O<|an (v:=.iface 62 (iZ 3)) O<|aI<|aJ hrg (VW.tupL<|vl' (VW.nilL)<|vZ<|vn)<|hQ _ _ h
 refine kZ<|af<|mvZ (ac a) O<|aa<|aB aG O<|tkZ h (λhg h=>wZ rg<|gy aG eX ec (enc:=AV.int .u32) (z':=0) cC (kk:=1) O O O hg (λg1=>asZ (.sl 1 rg 17 g1 0<|Int.toNat (a.length:Int)) O<|aT<|asZ (.int .u64 0) O<|nZ<|qZ<|af<|mvZ (.sl 1 rg 17 g1 0<|Int.toNat (a.length:Int)) O<|aa<|dM aG O<|mvZ (iZ 0) O<|nZ<|bZ<|lpZ h (λy=>aR [(0,ac a),(1,ac b),(6,.sl 1 rg 17 g1 0 y.2.2.length),(7,.int .u64 y.1),(19,iZ ((Int.toNat (a.length:Int)):Int)),(20,iZ y.2.1)]) (λy=>stL S rg [(17,.arr 1 (List.map (AV.int .u32) y.2.2),g1)]) (am (fZ<|fZ<|fc (VW.slen lzZ)<|fZ<|fZ<|fZ<|fn)<|sc O<|sn) (λy _ h=>?_)))
 obtain⟨borrow,x,out⟩:=y
 refine af<|aa<|bc O O<|nZ<|qZ<|cZ h O (λhb1 h=>?_) (λhb1 h=>?_)
 ·exact kZ<|qZ<|bZ<|af<|mvZ (iZ x) O<|asZ (iZ x) O<|aT<|mvZ (ac a) O<|mvZ (iZ x) O<|aa<|clZ O<|bV h λr1 h=>mvZ (ac b) O<|mvZ (iZ x) O<|aa<|clZ O<|bV h λr2 h=>aa<|jN O O<|mvZ (.int .u64 borrow) O<|aa<|jN O O<|stZ h (λd hs h=>wZ rg<|aO (v:=.int .u64 d) (by subst hs;rfl)<|aT<|mvZ (.sl 1 rg 17 g1 0 out.length) O<|mvZ (iZ x) O<|mvZ (.int .u64 d) O<|aa<|bb cR cE O<|tkZ h (λhi h=>aa<|bI aG a_ dZ O O hi<|aa<|bU (aZ 17 O) a_ dZ (x':=(IntKind.wrap .u32 d)) (λ_=>O) O O (de hi lzZ) O O ba<|nZ<|rZ<|mvZ (.int .u64 d) O<|aa<|eQ O O dZ<|asZ (.int .u64<|d / 2^(Int.toNat 63)) O<|nZ<|rZ<|tkZ h (λhg1 h=>aa<|aC O O hg1<|mvZ (iZ<|x+1) O<|nZ<|⟨((d / 2^(Int.toNat 63)),(x+1),(b6 out x<|IntKind.wrap .u32 d)),(am (fZ<|fZ<|fc (VW.slen lzZ)<|fZ<|fZ<|fZ<|fn)<|sc O<|sn),h⟩)))
 exact xsZ<|af<|mvZ (.sl 1 rg 17 g1 0 out.length) O<|dX (aU (k:=17) (xs:=List.map (AV.int .u32) out) O (es:=[(40,ac out)]) (fc (a8 O)<|fn) (m:=[])<|sn)<|aa<|clZ O<|bg h λr3 h=>asZ (ac r3) O<|asZ .niface O<|aD<|an (v:=ac r3) O<|an (v:=.niface) O<|aI<|aJ hrg (VW.tupL<|vZ<|vZ<|vn)<|hQ _ _ h
theorem je {a:List Int} {Q:Int->Prop} (h:gb a Q) (hQ:∀r1,Q r1->R (iZ r1) S) :
  Ctr Try.prog 59 [ac a] S R:=by
 refine aL Try.func59 rfl Try.ntmps59 Try.results59 krZ (λrg hrg=>?_)
 refine af<|asZ (iZ 0) O<|aT<|asZ (iZ 0) O<|nZ<|qZ<|af<|mvZ (ac a) O<|aa<|aB aG O<|mvZ (iZ 0) O<|nZ<|bZ<|lpZ h (λy=>aR [(3,iZ y.1),(7,ac a),(8,iZ (a.length:Int)),(9,iZ y.2)]) (λy=>stL S rg []) (am (aP<|fn)<|sn) (λy _ h=>?_)
 obtain⟨n,x⟩:=y
 refine af<|aa<|bc O O<|nZ<|qZ<|cZ h O (λhb h=>?_) (λhb h=>?_)
 ·refine kZ<|qZ<|bZ<|af<|mvZ (iZ x) O<|tkZ h (λhg h=>aa<|aQ aG a_ dZ (λ_=>O) O O hg<|aa<|aN a_ dG O O (v:=.int .u32 (at' a x)) O<|asZ (iZ x) O<|asZ (.int .u32<|at' a x) O<|aT<|mvZ (iZ 0) O<|nZ<|bZ<|lpZ h (λy=>aR [(3,iZ y.1),(4,iZ x),(5,.int .u32 (at' a x)),(7,ac a),(8,iZ (a.length:Int)),(9,iZ x),(14,iZ y.2)]) (λy=>stL S rg []) (am (aP<|fZ<|fZ<|fZ<|fn)<|sn) (λy _ h=>?_))
  obtain⟨n1,x1⟩:=y
  refine af<|aa<|bc O O<|nZ<|qZ<|cZ h O (λhb1 h=>?_) (λhb1 h=>?_)
  ·refine kZ<|qZ<|bZ<|af<|mvZ (iZ x1) O<|asZ (iZ x1) O<|aT<|mvZ (.int .u32<|at' a x) O<|mvZ (iZ x1) O<|tkZ h (λhg1 h=>aa<|eQ O O hg1<|aa<|tw O O<|aa<|cu O O<|nZ<|cZ h O (λhb2 h=>?_) (λhb2 h=>?_))
   ·exact rZ<|mvZ (iZ x) O<|tkZ h (λhg2 h=>aa<|qx O O hg2<|mvZ (iZ x1) O<|tkZ h (λhg3 h=>aa<|aC O O hg3<|tkZ h (λhg4 h=>aa<|aC O O hg4<|asZ (iZ<|((32*x)+x1)+1) O (nZ<|rZ<|tkZ h (λhg5 h=>aa<|aC O O hg5<|mvZ (iZ<|x1+1) O<|nZ<|⟨((((32*x)+x1)+1),(x1+1)),(am (aP<|fZ<|fZ<|fZ<|fn)<|sn),h⟩)))))
   exact kZ<|rZ<|tkZ h (λhg6 h=>aa<|aC O O hg6<|mvZ (iZ<|x1+1) O<|nZ<|⟨(n1,(x1+1)),(am (aP<|fZ<|fZ<|fZ<|fn)<|sn),h⟩)
  exact xsZ<|rZ<|tkZ h (λhg7 h=>aa<|aC O O hg7<|mvZ (iZ<|x+1) O<|nZ<|⟨(n1,(x+1)),(am (aP<|fn)<|sn),h⟩)
 exact xsZ<|af<|mvZ (iZ n) O<|asZ (iZ n) O<|aD<|gv1 hrg<|hQ _ h
theorem b7 {a:List Int} {Q:List Int->Prop} (h:b8 a Q) (hQ:∀r1,Q r1->R (ac r1) S) :
  Ctr Try.prog 72 [ac a] S R:=by
 refine aL Try.func72 rfl Try.ntmps72 Try.results72 krZ (λrg hrg=>?_)
 refine af<|asZ .nil O<|aT<|mvZ (ac a) O<|aa<|aB aG O<|asZ (iZ (a.length:Int)) O<|nZ<|jnZ h (λy=>aR [(0,ac a),(3,iZ y)]) (λy=>stL S rg []) (λn h=>?_) (λ_ h=>?_)
 ·exact af<|wZ rg<|aY aG ec cC (es:=[]) O (kk:=1) O O O O O O (λg1=>mvZ (ac a) O<|mvZ (iZ n) O<|tkZ h (λhg h=>aa<|jh aG a_ dZ (λ_=>O) O (l:=0) (h:=n) O O hg<|tkZ h (λhg1 h=>wZ rg<|cL aG eX ec cC (es:=([]:List Int)) (xs:=(eh a 0 n)) (enc:=AV.int .u32) (aZ 18 O) lzZ (O) (kk:=1) O O (λ_=>O) (λ_=>O) hg1 O (λ_=>ba) (λg2=>asZ (.sl 1 rg 18 g2 0<|(([]:List Int)++(eh a 0 n)).length) O (aD<|an (v:=.sl 1 rg 18 g2 0 ((([]:List Int)++(eh a 0 n)).length)) O (aI<|bK (k:=18) (xs:=List.map (AV.int .u32) (([]:List Int)++(eh a 0 n))) O (v':=ac (([]:List Int)++(eh a 0 n))) (a8 O) (goZ hrg<|hQ _ h)))))))
 refine bZ<|lpZ h (λy=>aR [(0,ac a),(3,iZ y)]) (λy=>stL S rg []) (am (fZ<|fZ<|fn)<|sn) (λn1 _ h=>qZ<|af<|mvZ (iZ n1) O<|aa<|eb O O<|mvZ (.bool<|decide<|0<n1) O<|gtZ h O O (λhb h=>?_) (λhb h=>?_))
 ·refine mvZ (ac a) O<|gTZ O O hb<|mvZ (iZ n1) O<|gTZ O O hb<|tkZ h (λhg2 h=>aa<|bC O O hg2<|gTZ O O hb<|tkZ h (λhg3 h=>aa<|aQ aG a_ dZ (λ_=>O) O O hg3<|gTZ O O hb<|aa<|aN a_ dG O O (v:=.int .u32 (at' a<|n1-1)) O (gTZ O O hb<|aa<|cu O O<|aa<|aM O hb (v:=.bool ((at' a<|n1-1) == 0)) O (nZ<|cZ h O (λhb1 h=>?_) (λhb1 h=>?_)))))
  ·exact kZ<|bZ<|rZ<|mvZ (iZ n1) O<|tkZ h (λhg4 h=>aa<|bC O O hg4<|asZ (iZ<|n1-1) O<|nZ<|⟨(n1-1),(am (fZ<|fZ<|fn)<|sn),h⟩)
  exact xsZ<|⟨n1,(am (fZ<|fZ<|fn)<|sn),h⟩
 exact gFZ O O hb O<|gFZ O O hb O<|gFZ O O hb O<|gFZ O O hb O<|gFZ O O hb O<|aa<|aE O hb (v:=.bool false) O<|nZ<|cFZ O O<|xsZ<|⟨n1,(am (fZ<|fZ<|fn)<|sn),h⟩
theorem ky {a:List Int} {s:Int} {Q:List Int->Prop} (h:iI a s Q) (hQ:∀r1,Q r1->R (ac r1) S) :
  Ctr Try.prog 73 [ac a,iZ s] S R:=by
 refine aL Try.func73 rfl Try.ntmps73 Try.results73 krZ (λrg hrg=>?_)
 refine af<|asZ .nil O<|aT<|asZ .nil O<|aT<|asZ (.int .u64 0) O<|nZ<|qZ<|af<|mvZ (ac a) O<|aa<|aB aG O<|mvZ (iZ 0) O<|nZ<|bZ<|Vc.mat 5 25 1 O dZ (λg1=>lgZ h g1 (λy=>aR [(1,iZ s),(5,.sl 1 rg 25 y.2 0 y.1.2.2.length),(6,.int .u64 y.1.1),(9,ac a),(10,iZ (a.length:Int)),(11,iZ y.1.2.1)]) (λy=>stL S rg [(25,.arr 1 (List.map (AV.int .u32) y.1.2.2),y.2)]) (am (fZ<|fc (VW.slen lzZ)<|aP<|fn)<|sc O<|sn) (λy _ h=>?_))
 obtain⟨⟨carry,x,out⟩,g2⟩:=y
 refine af<|aa<|bc O O<|nZ<|qZ<|cZ h O (λhb h=>?_) (λhb h=>?_)
 ·exact kZ<|qZ<|bZ<|af<|tkZ h (λhg h=>aa<|aQ aG a_ dZ (λ_=>O) O O hg<|aa<|aN a_ dG O O (v:=.int .u32 (at' a x)) O<|asZ (.int .u32<|at' a x) O<|aT<|mvZ (.int .u64 carry) O<|mvZ (.int .u32<|at' a x) O<|aa<|bb cE cR O<|mvZ (iZ s) O<|tkZ h (λhg1 h=>aa<|ji O O hg1<|aa<|oW O O<|stZ h (λcarry1 hs h=>wZ rg<|aO (v:=.int .u64 carry1) (by subst hs;rfl)<|aT<|mvZ (.sl 1 rg 25 g2 0 out.length) O<|mvZ (.int .u64 carry1) O<|aa<|bb cR cE O<|wZ rg<|aY aG ec cC (es:=[.int .u32 (IntKind.wrap .u32 carry1)]) O (kk:=1) O O O O O O (λg3=>tkZ h (λhg2 h=>wZ rg<|cL aG eX ec cC (es:=out) (xs:=[(IntKind.wrap .u32 carry1)]) (enc:=AV.int .u32) (aZ 25 O) lzZ (bN (aZ 24 O) lzZ) (kk:=1) O O (λ_=>O) (λ_=>O) hg2 O (λ_=>ba) (λg4=>asZ (.sl 1 rg 25 g4 0<|(out++[(IntKind.wrap .u32 carry1)]).length) O<|nZ<|rZ<|mvZ (.int .u64 carry1) O<|aa<|eQ O O dZ<|asZ (.int .u64<|carry1 / 2^(Int.toNat 32)) O<|nZ<|rZ<|tkZ h (λhg3 h=>aa<|aC O O hg3<|mvZ (iZ<|x+1) O<|nZ<|⟨(((carry1 / 2^(Int.toNat 32)),(x+1),(out++[(IntKind.wrap .u32 carry1)])),g4),(am (aP<|fZ<|fZ<|fn)<|sc O<|sn),h⟩)))))))
 exact xsZ<|af<|mvZ (.sl 1 rg 25 g2 0 out.length) O<|mvZ (.int .u64 carry) O<|aa<|bb cR cE O<|wZ rg<|aY aG ec cC (es:=[.int .u32 (IntKind.wrap .u32 carry)]) O (kk:=1) O O O O O O (λg5=>tkZ h (λhg4 h=>wZ rg<|cL aG eX ec cC (es:=out) (xs:=[(IntKind.wrap .u32 carry)]) (enc:=AV.int .u32) (aZ 25 O) lzZ (bN (aZ 32 O) lzZ) (kk:=1) O O (λ_=>O) (λ_=>O) hg4 O (λ_=>ba) (λg6=>dX (aU (k:=25) (xs:=List.map (AV.int .u32) (out++[(IntKind.wrap .u32 carry)])) O (es:=[(33,ac (out++[(IntKind.wrap .u32 carry)]))]) (fc (a8 O)<|fn) (m:=[]) (sn)) (aa<|clZ O<|b7 h λr h=>asZ (ac r) O<|aD<|gv1 hrg<|hQ _ h))))
theorem bv {a:List Int} {i:Int} {Q:Int->Prop} (h:bA a i Q) (hQ:∀r1,Q r1->R (AV.int .u64 r1) S) :
  Ctr Try.prog 74 [ac a,iZ i] S R:=by
 refine aL Try.func74 rfl Try.ntmps74 Try.results74 krZ (λrg hrg=>?_)
 refine af<|asZ (.int .u64 0) O<|nZ<|qZ<|af<|mvZ (iZ i) O<|mvZ (ac a) O<|aa<|aB aG O<|aa<|bc O O<|nZ<|cZ h O (λhb h=>?_) (λhb h=>?_)
 ·exact af<|mvZ (ac a) O<|mvZ (iZ i) O<|tkZ h (λhg h=>aa<|aQ aG a_ dZ (λ_=>O) O O hg<|aa<|aN a_ dG O O (v:=.int .u32 (at' a i)) O<|aa<|bb cE cR O<|asZ (.int .u64<|IntKind.wrap .u64<|at' a i) O<|aD<|gv1 hrg<|hQ _ h)
 exact kZ<|af<|asZ (.int .u64 0) O<|aD<|gv1 hrg<|hQ _ h
theorem nU {a:List Int} {b:List Int} {Q:List Int->Prop} (h:gP a b Q) (hQ:∀r1,Q r1->R (ac r1) S) :
  Ctr Try.prog 75 [ac a,ac b] S R:=by
 refine aL Try.func75 rfl Try.ntmps75 Try.results75 krZ (λrg hrg=>?_)
 refine af<|asZ .nil O<|aT<|mvZ (ac a) O<|aa<|aB aG O<|mvZ (ac b) O<|aa<|aB aG O<|tkZ h (λhg h=>aa<|aC O O hg<|tkZ h (λhg1 h=>aa<|aC O O hg1<|tkZ h (λhg2 h=>wZ rg<|gy aG eX ec (enc:=AV.int .u32) (z':=0) cC (kk:=1) O O O hg2 (λg1=>asZ (.sl 1 rg 17 g1 0<|Int.toNat<|((a.length:Int)+(b.length:Int))+1) O (nZ<|qZ<|af<|mvZ (ac a) O<|aa<|aB aG O<|mvZ (iZ 0) O<|nZ<|bZ<|lpZ h (λy=>aR [(1,ac b),(5,.sl 1 rg 17 g1 0 y.2.length),(18,ac a),(19,iZ (a.length:Int)),(20,iZ y.1)]) (λy=>stL S rg [(17,.arr 1 (List.map (AV.int .u32) y.2),g1)]) (am (fZ<|fc (VW.slen lzZ)<|fZ<|fZ<|fZ<|fn)<|sc O<|sn) (λy _ h=>?_))))))
 obtain⟨x,out⟩:=y
 refine af<|aa<|bc O O<|nZ<|qZ<|cZ h O (λhb h=>?_) (λhb h=>?_)
 ·refine kZ<|qZ<|bZ<|af<|mvZ (iZ x) O<|tkZ h (λhg3 h=>aa<|aQ aG a_ dZ (λ_=>O) O O hg3<|aa<|aN a_ dG O O (v:=.int .u32 (at' a x)) O<|asZ (iZ x) O<|asZ (.int .u32<|at' a x) O<|aT<|asZ (.int .u64 0) O<|aT<|mvZ (ac b) O<|aa<|aB aG O<|tkZ h (λhg4 h=>aa<|aC O O hg4<|mvZ (iZ 0) O<|nZ<|bZ<|lpZ h (λy=>aR [(1,ac b),(5,.sl 1 rg 17 g1 0 y.2.2.length),(6,iZ x),(7,.int .u32 (at' a x)),(8,.int .u64 y.1),(18,ac a),(19,iZ (a.length:Int)),(20,iZ x),(27,iZ ((b.length:Int)+1)),(28,iZ y.2.1)]) (λy=>stL S rg [(17,.arr 1 (List.map (AV.int .u32) y.2.2),g1)]) (am (aP<|aP<|fZ<|fZ<|fn)<|sc O<|sn) (λy _ h=>?_)))
  obtain⟨carry,x1,out1⟩:=y
  refine af<|aa<|bc O O<|nZ<|qZ<|cZ h O (λhb1 h=>?_) (λhb1 h=>?_)
  ·refine kZ<|qZ<|bZ<|af<|mvZ (iZ x1) O<|asZ (iZ x1) O<|nZ<|qZ ?_
   obtain⟨r,hc,h⟩:=h
   refine tkZ h (λhg5 h=>tkZ h (λhi h=>Vc.drawn' bR rg (gV [(4,pc (.int .u64 r))]) krZ<|dP O O<|ak (v:=.int .u32 (at' a x)) O<|dP O O<|bb cE cR O<|dP O O<|ak (v:=ac b) O<|dP O O<|ak (v:=iZ x1) O<|dC (vs:=[ac b,iZ x1]) O (vZ<|vZ<|vn) (λ_=>bv hc (λ_ hr=>⟨by rw[hr],rfl⟩)) O<|dP O O<|pP O O<|dP O O<|ak (v:=.sl 1 rg 17 g1 0 out1.length) O<|dP O O<|ak (v:=iZ x) O<|dP O O<|ak (v:=iZ x1) O<|dP O O<|aC O O hg5<|dP O O<|bI aG a_ dZ O O hi<|dL (E:=([(rg,17)],[])) O O (by simp) (cfn) (db (aZ 17 O) a_ dG O (de hi lzZ) O (v:=.int .u32 (at' out1<|x+x1)) O (dP O O<|bb cE cR O<|dP O O<|jj O O<|dP O O<|ak (v:=.int .u64 carry) O<|dP O O<|jj O O<|dP O O<|aO (v:=.int .u64 (IntKind.wrap .u64<|(IntKind.wrap .u64<|(IntKind.wrap .u64<|(IntKind.wrap .u64<|at' a x)*r)+(IntKind.wrap .u64<|at' out1<|x+x1))+carry)) O (dN<|af<|mvZ (.sl 1 rg 17 g1 0 out1.length) O<|mvZ (iZ x) O<|mvZ (iZ x1) O<|tkZ h (λhg6 h=>aa<|aC O O hg6<|mvZ (.int .u64<|IntKind.wrap .u64<|(IntKind.wrap .u64<|(IntKind.wrap .u64<|(IntKind.wrap .u64<|at' a x)*r)+(IntKind.wrap .u64<|at' out1<|x+x1))+carry) O (aa<|bb cR cE O<|tkZ h (λhi1 h=>aa<|bI aG a_ dZ O O hi1 ?_))))))))
   exact aa<|bU (aZ 17 O) a_ dZ (x':=(IntKind.wrap .u32<|IntKind.wrap .u64<|(IntKind.wrap .u64<|(IntKind.wrap .u64<|(IntKind.wrap .u64<|at' a x)*r)+(IntKind.wrap .u64<|at' out1<|x+x1))+carry)) (λ_=>O) O O (de hi1 lzZ) O O ba<|nZ<|rZ<|mvZ (.int .u64<|IntKind.wrap .u64<|(IntKind.wrap .u64<|(IntKind.wrap .u64<|(IntKind.wrap .u64<|at' a x)*r)+(IntKind.wrap .u64<|at' out1<|x+x1))+carry) O (aa<|eQ O O dZ<|stZ h (λcarry1 hs h=>wZ rg<|aO (v:=.int .u64 carry1) (by subst hs;rfl)<|nZ<|rZ<|tkZ h (λhg7 h=>aa<|aC O O hg7<|mvZ (iZ<|x1+1) O<|nZ<|⟨(carry1,(x1+1),(b6 out1 (x+x1)<|IntKind.wrap .u32<|IntKind.wrap .u64<|(IntKind.wrap .u64<|(IntKind.wrap .u64<|(IntKind.wrap .u64<|at' a x)*r)+(IntKind.wrap .u64<|at' out1<|x+x1))+carry)),(am (fZ<|fc (VW.slen lzZ)<|aP<|aP<|fn)<|sc O<|sn),h⟩)))
  exact xsZ<|rZ<|tkZ h (λhg8 h=>aa<|aC O O hg8<|mvZ (iZ<|x+1) O<|nZ<|⟨((x+1),out1),(am (aP<|fZ<|fn)<|sc O<|sn),h⟩)
 exact xsZ<|af<|mvZ (.sl 1 rg 17 g1 0 out.length) O<|dX (aU (k:=17) (xs:=List.map (AV.int .u32) out) O (es:=[(58,ac out)]) (fc (a8 O)<|fn) (m:=[])<|sn)<|aa<|clZ O<|b7 h λr1 h=>asZ (ac r1) O<|aD<|gv1 hrg<|hQ _ h
theorem jM {a:List Int} {b:List Int} {Q:Int->Prop} (h:fF a b Q) (hQ:∀r1,Q r1->R (iZ r1) S) :
  Ctr Try.prog 76 [ac a,ac b] S R:=by
 refine aL Try.func76 rfl Try.ntmps76 Try.results76 krZ (λrg hrg=>?_)
 refine af<|asZ (iZ 0) O<|nZ<|qZ<|af<|mvZ (ac a) O<|aa<|aB aG O<|mvZ (ac b) O<|aa<|aB aG O<|aa<|ri O O<|tkZ h (λhg h=>aa<|bC O O hg<|stZ h (λi hs h=>wZ rg<|aO (v:=iZ i) (by subst hs;rfl)<|nZ<|bZ<|lpZ h (λy=>aR [(0,ac a),(1,ac b),(5,iZ y)]) (λy=>stL S rg []) (am (fZ<|fZ<|fZ<|fn)<|sn) (λi1 _ h=>qZ<|af<|mvZ (iZ i1) O<|aa<|eo O O<|nZ<|cZ h O (λhb h=>?_) (λhb h=>?_))))
 ·refine kZ<|qZ<|bZ<|qZ<|af<|mvZ (ac a) O<|mvZ (iZ i1) O<|aa<|clZ O<|bv h λr h=>mvZ (ac b) O<|mvZ (iZ i1) O<|aa<|clZ O<|bv h λr1 h=>aa<|bc O O<|nZ<|cZ h O (λhb1 h=>?_) (λhb1 h=>?_)
  ·exact af<|asZ (iZ<|-1) O<|aD<|gv1 hrg<|hQ _ h
  refine kZ<|af<|mvZ (ac a) O<|mvZ (iZ i1) O<|aa<|clZ O<|bv h λr2 h=>mvZ (ac b) O<|mvZ (iZ i1) O<|aa<|clZ O<|bv h λr3 h=>aa<|eb O O<|nZ<|cZ h O (λhb2 h=>?_) (λhb2 h=>?_)
  ·exact af<|asZ (iZ 1) O<|aD<|gv1 hrg<|hQ _ h
  exact kZ<|rZ<|mvZ (iZ i1) O<|tkZ h (λhg1 h=>aa<|bC O O hg1<|asZ (iZ<|i1-1) O<|nZ<|⟨(i1-1),(am (fZ<|fZ<|fZ<|fn)<|sn),h⟩)
 exact xsZ<|af<|asZ (iZ 0) O<|aD<|gv1 hrg<|hQ _ h
theorem jL {a:List Int} {b:List Int} {Q:List Int->Int->Prop} (h:gO a b Q) (hQ:∀r1 r2,Q r1 r2->R (.tuple [ac r1,iZ r2]) S) :
  Ctr Try.prog 77 [ac a,ac b] S R:=by
 refine aL Try.func77 rfl Try.ntmps77 Try.results77 krZ (λrg hrg=>?_)
 refine af<|asZ .nil O<|asZ (iZ 0) O<|nZ<|qZ<|af<|mvZ (ac a) O<|mvZ (ac b) O<|aa<|clZ O<|jM h λr h=>aa<|bc O O<|nZ<|cZ h O (λhb h=>?_) (λhb h=>?_)
 ·exact af<|asZ .nil O<|asZ (iZ 3) O<|aD<|an (v:=.nil) O<|an (v:=iZ 3) O<|aI<|aJ hrg (VW.tupL<|vl' (VW.nilL)<|vZ<|vn)<|hQ _ _ h
 refine kZ<|af<|asZ .nil O<|aT<|asZ (.int .u64 0) O<|nZ<|qZ<|af<|mvZ (ac a) O<|aa<|aB aG O<|mvZ (iZ 0) O<|nZ<|bZ<|Vc.mat 6 32 1 O dZ (λg1=>lgZ h g1 (λy=>aR [(0,ac a),(1,ac b),(6,.sl 1 rg 32 y.2 0 y.1.2.2.length),(7,.int .u64 y.1.1),(15,iZ (a.length:Int)),(16,iZ y.1.2.1)]) (λy=>stL S rg [(32,.arr 1 (List.map (AV.int .u32) y.1.2.2),y.2)]) (am (fZ<|fZ<|fc (VW.slen lzZ)<|fZ<|fZ<|fZ<|fn)<|sc O<|sn) (λy _ h=>?_))
 obtain⟨⟨borrow,x,out⟩,g2⟩:=y
 refine af<|aa<|bc O O<|nZ<|qZ<|cZ h O (λhb1 h=>?_) (λhb1 h=>?_)
 ·exact kZ<|qZ<|bZ<|af<|mvZ (iZ x) O<|asZ (iZ x) O<|aT<|mvZ (ac a) O<|mvZ (iZ x) O<|aa<|clZ O<|bv h λr1 h=>mvZ (ac b) O<|mvZ (iZ x) O<|aa<|clZ O<|bv h λr2 h=>aa<|jN O O<|mvZ (.int .u64 borrow) O<|aa<|jN O O<|stZ h (λs hs h=>wZ rg<|aO (v:=.int .u64 s) (by subst hs;rfl)<|aT<|mvZ (.sl 1 rg 32 g2 0 out.length) O<|mvZ (.int .u64 s) O<|aa<|bb cR cE O<|wZ rg<|aY aG ec cC (es:=[.int .u32 (IntKind.wrap .u32 s)]) O (kk:=1) O O O O O O (λg3=>tkZ h (λhg h=>wZ rg<|cL aG eX ec cC (es:=out) (xs:=[(IntKind.wrap .u32 s)]) (enc:=AV.int .u32) (aZ 32 O) lzZ (bN (aZ 31 O) lzZ) (kk:=1) O O (λ_=>O) (λ_=>O) hg O (λ_=>ba) (λg4=>asZ (.sl 1 rg 32 g4 0<|(out++[(IntKind.wrap .u32 s)]).length) O<|nZ<|rZ<|mvZ (.int .u64 s) O<|aa<|eQ O O dZ<|asZ (.int .u64<|s / 2^(Int.toNat 63)) O<|nZ<|rZ<|tkZ h (λhg1 h=>aa<|aC O O hg1<|mvZ (iZ<|x+1) O<|nZ<|⟨(((s / 2^(Int.toNat 63)),(x+1),(out++[(IntKind.wrap .u32 s)])),g4),(am (aP<|fZ<|fZ<|fn)<|sc O<|sn),h⟩)))))
 exact xsZ<|af<|mvZ (.sl 1 rg 32 g2 0 out.length) O<|dX (aU (k:=32) (xs:=List.map (AV.int .u32) out) O (es:=[(36,ac out)]) (fc (a8 O)<|fn) (m:=[])<|sn)<|aa<|clZ O<|b7 h λr3 h=>asZ (ac r3) O<|asZ (iZ 0) O<|aD<|an (v:=ac r3) O<|an (v:=iZ 0) O<|aI<|aJ hrg (VW.tupL<|vZ<|vZ<|vn)<|hQ _ _ h
theorem m4 {a:List Int} {s:Int} {Q:List Int->Prop} (h:ga a s Q) (hQ:∀r1,Q r1->R (ac r1) S) :
  Ctr Try.prog 78 [ac a,iZ s] S R:=by
 refine aL Try.func78 rfl Try.ntmps78 Try.results78 krZ (λrg hrg=>?_)
 refine af<|asZ .nil O<|aT<|asZ .nil O<|nZ<|qZ<|af<|mvZ (ac a) O<|aa<|aB aG O<|mvZ (iZ 0) O<|nZ<|bZ<|Vc.mat 5 26 1 O dZ (λg1=>lgZ h g1 (λy=>aR [(0,ac a),(1,iZ s),(5,.sl 1 rg 26 y.2 0 y.1.2.length),(8,iZ (a.length:Int)),(9,iZ y.1.1)]) (λy=>stL S rg [(26,.arr 1 (List.map (AV.int .u32) y.1.2),y.2)]) (am (fZ<|fZ<|fc (VW.slen lzZ)<|fZ<|fZ<|fn)<|sc O<|sn) (λy _ h=>?_))
 obtain⟨⟨x,out⟩,g2⟩:=y
 refine af<|aa<|bc O O<|nZ<|qZ<|cZ h O (λhb h=>?_) (λhb h=>?_)
 ·exact kZ<|qZ<|bZ<|af<|mvZ (iZ x) O<|asZ (iZ x) O<|nZ<|rZ<|mvZ (.sl 1 rg 26 g2 0 out.length) O<|mvZ (ac a) O<|mvZ (iZ x) O<|aa<|clZ O<|bv h λr h=>mvZ (ac a) O<|mvZ (iZ x) O<|tkZ h (λhg h=>aa<|aC O O hg<|aa<|clZ O<|bv h λr1 h=>aa<|ji O O dZ<|aa<|oW O O<|mvZ (iZ s) O<|tkZ h (λhg1 h=>aa<|eQ O O hg1<|aa<|bb cR cE O<|wZ rg<|aY aG ec cC (es:=[.int .u32 (IntKind.wrap .u32<|(bits .or .u64 r<|IntKind.wrap .u64<|r1*2^(Int.toNat 32)) / 2^(Int.toNat s))]) O (kk:=1) O O O O O O (λg3=>tkZ h (λhg2 h=>wZ rg<|cL aG eX ec cC (es:=out) (xs:=[(IntKind.wrap .u32<|(bits .or .u64 r<|IntKind.wrap .u64<|r1*2^(Int.toNat 32)) / 2^(Int.toNat s))]) (enc:=AV.int .u32) (aZ 26 O) lzZ (bN (aZ 25 O) lzZ) (kk:=1) O O (λ_=>O) (λ_=>O) hg2 O (λ_=>ba) (λg4=>asZ (.sl 1 rg 26 g4 0<|(out++[(IntKind.wrap .u32<|(bits .or .u64 r<|IntKind.wrap .u64<|r1*2^(Int.toNat 32)) / 2^(Int.toNat s))]).length) O (nZ<|rZ<|tkZ h (λhg3 h=>aa<|aC O O hg3<|mvZ (iZ<|x+1) O<|nZ<|⟨(((x+1),(out++[(IntKind.wrap .u32<|(bits .or .u64 r<|IntKind.wrap .u64<|r1*2^(Int.toNat 32)) / 2^(Int.toNat s))])),g4),(am (aP<|fZ<|fn)<|sc O<|sn),h⟩)))))))
 exact xsZ<|af<|mvZ (.sl 1 rg 26 g2 0 out.length) O<|dX (aU (k:=26) (xs:=List.map (AV.int .u32) out) O (es:=[(28,ac out)]) (fc (a8 O)<|fn) (m:=[])<|sn)<|aa<|clZ O<|b7 h λr2 h=>asZ (ac r2) O<|aD<|gv1 hrg<|hQ _ h
theorem hH {a:List Int} {b:List Int} {Q:List Int->List Int->Int->Prop} (h:fE a b Q) (hQ:∀r1 r2 r3,Q r1 r2 r3->R (.tuple [ac r1,ac r2,iZ r3]) S) :
  Ctr Try.prog 61 [ac a,ac b] S R:=by
 refine aL Try.func61 rfl Try.ntmps61 Try.results61 krZ (λrg hrg=>?_)
 refine af<|asZ .nil O<|asZ .nil O<|asZ (iZ 0) O<|aT<|mvZ (ac b) O<|aa<|clZ O<|b7 h λb1 h=>asZ (ac b1) O<|aT<|mvZ (ac b1) O<|aa<|aB aG O<|asZ (iZ (b1.length:Int)) O<|nZ<|qZ<|af<|mvZ (iZ (b1.length:Int)) O<|aa<|cu O O<|nZ<|cZ h O (λhb h=>?_) (λhb h=>?_)
 ·exact af<|asZ .nil O<|asZ .nil O<|asZ (iZ 8) O<|aD<|an (v:=.nil) O<|an (v:=.nil) O<|an (v:=iZ 8) O<|aI<|aJ hrg (VW.tupL<|vl' (VW.nilL)<|vl' (VW.nilL)<|vZ<|vn)<|hQ _ _ _ h
 refine kZ<|af<|asZ (iZ 0) O<|nZ<|qZ<|bZ<|lpZ h (λy=>aR [(0,ac a),(1,ac b1),(7,iZ (b1.length:Int)),(8,iZ y)]) (λy=>stL S rg []) (am (aP<|fn)<|sn) (λs _ h=>qZ<|af<|mvZ (ac b1) O<|mvZ (iZ (b1.length:Int)) O<|tkZ h (λhg h=>aa<|bC O O hg<|tkZ h (λhg1 h=>aa<|aQ aG a_ dZ (λ_=>O) O O hg1<|aa<|aN a_ dG O O (v:=.int .u32 (at' b1<|(b1.length:Int)-1)) O (mvZ (iZ s) O<|tkZ h (λhg2 h=>aa<|ji O O hg2<|aa<|tw O O<|aa<|cu O O<|nZ<|cZ h O (λhb1 h=>?_) (λhb1 h=>?_))))))
 ·exact kZ<|bZ<|rZ<|mvZ (iZ s) O<|tkZ h (λhg3 h=>aa<|aC O O hg3<|asZ (iZ<|s+1) O<|nZ<|⟨(s+1),(am (aP<|fn)<|sn),h⟩)
 refine xsZ<|af<|mvZ (ac a) O<|mvZ (iZ s) O<|aa<|clZ O<|ky h λa1 h=>mvZ (ac b1) O<|mvZ (iZ s) O<|aa<|clZ O<|ky h λb2 h=>asZ (ac a1) O<|asZ (ac b2) O<|nZ<|qZ<|tkZ h (λhg4 h=>tkZ h (λhg5 h=>tkZ h (λhg6 h=>tkZ h (λhg7 h=>tkZ h (λhg8 h=>Vc.drawn' bR rg (λ_=>fH) krZ<|dP O O<|ak (v:=ac a1) O<|dP O O<|aB aG O<|dL (E:=([],[(rg,39)])) O O (by simp) (cfn) (gy aG eX ec (enc:=AV.int .u32) (z':=0) cC (kk:=1) O O O hg4 (λg1=>dL (E:=([],[(rg,40)])) O O (by simp) (cfa (by simp[a9])<|cfn) (aY aG ec cC (es:=[]) O (kk:=1) O O O O O O (λg2=>dP O O<|ak (v:=ac a1) O<|dP O O<|ak (v:=ac a1) O<|dP O O<|aB aG O<|dP O O<|ak (v:=iZ (b1.length:Int)) O<|dP O O<|bC O O hg5<|dP O O<|aC O O hg6<|dP O O<|ri O O<|dP O O<|jh aG a_ dZ (λ_=>O) O (l:=(max 0<|((a1.length:Int)-(b1.length:Int))+1)) (h:=(a1.length:Int)) O O hg7 (dL (E:=([],[(rg,40)])) O O (by simp) (cfo krZ<|cfa (by simp[a9])<|cfn) (cL aG eX ec cC (es:=([]:List Int)) (xs:=(eh a1 (max 0<|((a1.length:Int)-(b1.length:Int))+1) (a1.length:Int))) (enc:=AV.int .u32) (aZ 40 O) lzZ (O) (kk:=1) O O (λ_=>O) (λ_=>O) hg8 O (λ_=>ba) (λg3=>dP O O<|aO (v:=.sl 1 rg 39 g1 0 (Int.toNat (a1.length:Int))) O ?_))))))))))))
 refine dP O O<|aO (v:=.sl 1 rg 40 g3 0 ((([]:List Int)++(eh a1 (max 0<|((a1.length:Int)-(b1.length:Int))+1) (a1.length:Int))).length)) O (dN<|qZ<|af<|mvZ (ac a1) O<|aa<|aB aG O<|mvZ (iZ (b1.length:Int)) O<|tkZ h (λhg9 h=>aa<|bC O O hg9<|asZ (iZ<|(a1.length:Int)-(b1.length:Int)) O<|nZ<|bZ<|vE (aU (k:=40) (xs:=List.map (AV.int .u32) (([]:List Int)++(eh a1 (max 0<|((a1.length:Int)-(b1.length:Int))+1) (a1.length:Int)))) O (es:=[(0,ac a1),(1,ac b2),(7,iZ (b1.length:Int)),(8,iZ s),(9,.sl 1 rg 39 g1 0 (Int.toNat (a1.length:Int))),(10,ac (([]:List Int)++(eh a1 (max 0<|((a1.length:Int)-(b1.length:Int))+1) (a1.length:Int)))),(11,iZ ((a1.length:Int)-(b1.length:Int)))]) (aP<|fc (ia O)<|fc (a8 O)<|fZ<|fn) (m:=[(39,.arr 1 (List.map (AV.int .u32)<|ek (a1.length:Int) 0),g1)]) (sc O<|sn)) (lpZ h (λy=>aR [(0,ac a1),(1,ac b2),(7,iZ (b1.length:Int)),(8,iZ s),(9,.sl 1 rg 39 g1 0 y.2.2.length),(10,ac y.1),(11,iZ y.2.1)]) (λy=>stL S rg [(39,.arr 1 (List.map (AV.int .u32) y.2.2),g1)]) (am (aP<|fc (VW.slen lzZ)<|fZ<|fZ<|fn)<|sc O<|sn) (λy _ h=>?_))))
 obtain⟨r,i,q⟩:=y
 refine qZ<|af<|mvZ (iZ i) O<|aa<|eo O O<|nZ<|cZ h O (λhb2 h=>?_) (λhb2 h=>?_)
 ·refine kZ<|qZ<|bZ<|af<|mvZ (ac a1) O<|mvZ (iZ i) O<|tkZ h (λhg10 h=>aa<|aQ aG a_ dZ (λ_=>O) O O hg10<|aa<|aN a_ dG O O (v:=.int .u32 (at' a1 i)) O<|wZ rg<|aY aG ec cC (es:=[.int .u32 (at' a1 i)]) O (kk:=1) O O O O O O (λg4=>mvZ (ac r) O<|tkZ h (λhg11 h=>wZ rg<|cL aG eX ec cC (es:=[(at' a1 i)]) (xs:=r) (enc:=AV.int .u32) (aZ 62 O) lzZ (O) (kk:=1) O O (λ_=>O) (λ_=>O) hg11 O (λ_=>ba) (λg5=>dX (aU (k:=62) (xs:=List.map (AV.int .u32) ([(at' a1 i)]++r)) O (es:=[(0,ac a1),(1,ac b2),(7,iZ (b1.length:Int)),(8,iZ s),(9,.sl 1 rg 39 g1 0 q.length),(11,iZ i),(64,ac ([(at' a1 i)]++r))]) (aP<|fc (ia O)<|fZ<|fc (a8 O)<|fn) (m:=[(39,.arr 1 (List.map (AV.int .u32) q),g1)]) (sc O<|sn)) (aa<|clZ O<|b7 h λr1 h=>asZ (ac r1) O<|aT<|mvZ (ac r1) O<|mvZ (iZ (b1.length:Int)) O<|aa<|clZ O<|bv h λr2 h=>aa<|ji O O dZ<|mvZ (ac r1) O<|mvZ (iZ (b1.length:Int)) O<|tkZ h (λhg12 h=>aa<|bC O O hg12<|aa<|clZ O<|bv h λr3 h=>aa<|oW O O<|mvZ (ac b2) O<|mvZ (iZ (b1.length:Int)) O<|tkZ h (λhg13 h=>aa<|bC O O hg13<|aa<|clZ O<|bv h λr4 h=>tkZ h (λhg14 h=>aa<|rh O O hg14<|aa<|wI O O<|stZ h (λguess hs h=>?_)))))))))
  refine wZ rg<|aO (v:=.int .u64 guess) (by subst hs;rfl)<|aT<|mvZ (ac b2) O<|mvZ (.int .u64 guess) O<|aa<|bb cR cE O<|wZ rg<|aY aG ec cC (es:=[.int .u32 (IntKind.wrap .u32 guess)]) O (kk:=1) O O O O O O (λg6=>dX (aU (k:=84) (xs:=List.map (AV.int .u32) [(IntKind.wrap .u32 guess)]) O (es:=[(0,ac a1),(1,ac b2),(7,iZ (b1.length:Int)),(8,iZ s),(9,.sl 1 rg 39 g1 0 q.length),(10,ac r1),(11,iZ i),(12,.int .u64 guess),(81,ac b2),(84,ac [(IntKind.wrap .u32 guess)])]) (aP<|fc (ia O)<|aP<|fc (a8 O)<|fn) (m:=[(39,.arr 1 (List.map (AV.int .u32) q),g1)]) (sc O<|sn)) (aa<|clZ O<|nU h λp h=>asZ (ac p) O<|nZ<|qZ<|bZ<|lpZ h (λy=>aR [(0,ac a1),(1,ac b2),(7,iZ (b1.length:Int)),(8,iZ s),(9,.sl 1 rg 39 g1 0 q.length),(10,ac r1),(11,iZ i),(12,.int .u64 y.1),(13,ac y.2)]) (λy=>stL S rg [(39,.arr 1 (List.map (AV.int .u32) q),g1)]) (am (aP<|aP<|fZ<|fn)<|sc O<|sn) (λy _ h=>?_)))
  obtain⟨guess1,p1⟩:=y
  refine qZ<|af<|mvZ (ac p1) O<|mvZ (ac r1) O<|aa<|clZ O<|jM h λr5 h=>aa<|eb O O<|nZ<|cZ h O (λhb3 h=>?_) (λhb3 h=>?_)
  ·exact kZ<|bZ<|af<|mvZ (.int .u64 guess1) O<|aa<|jN O O<|asZ (.int .u64<|IntKind.wrap .u64<|guess1-1) O<|nZ<|rZ<|mvZ (ac p1) O<|mvZ (ac b2) O<|aa<|clZ O<|jL h λr6 r7 h=>mvZ (.tuple [ac r6,iZ r7]) O<|aa<|aj (v:=ac r6) O O O<|aa<|aj (v:=iZ r7) O O O<|asZ (ac r6) O<|nZ<|⟨((IntKind.wrap .u64<|guess1-1),r6),(am (aP<|aP<|fZ<|fn)<|sc O<|sn),h⟩
  exact xsZ<|af<|mvZ (ac r1) O<|mvZ (ac p1) O<|aa<|clZ O<|jL h λr8 r9 h=>mvZ (.tuple [ac r8,iZ r9]) O<|aa<|aj (v:=ac r8) O O O<|aa<|aj (v:=iZ r9) O O O<|asZ (ac r8) O<|nZ<|rZ<|mvZ (.sl 1 rg 39 g1 0 q.length) O<|mvZ (iZ i) O<|mvZ (.int .u64 guess1) O<|aa<|bb cR cE O<|tkZ h (λhi h=>aa<|bI aG a_ dZ O O hi<|aa<|bU (aZ 39 O) a_ dZ (x':=(IntKind.wrap .u32 guess1)) (λ_=>O) O O (de hi lzZ) O O ba<|nZ<|rZ<|mvZ (iZ i) O<|tkZ h (λhg15 h=>aa<|bC O O hg15<|asZ (iZ<|i-1) O<|nZ<|⟨(r8,(i-1),(b6 q i<|IntKind.wrap .u32 guess1)),(am (aP<|fc (VW.slen lzZ)<|fZ<|fZ<|fn)<|sc O<|sn),h⟩))
 exact xsZ<|af<|mvZ (.sl 1 rg 39 g1 0 q.length) O<|dX (aU (k:=39) (xs:=List.map (AV.int .u32) q) O (es:=[(8,iZ s),(10,ac r),(109,ac q)]) (fZ<|fZ<|fc (a8 O)<|fn) (m:=[]) (sn)) (aa<|clZ O<|b7 h λr10 h=>mvZ (ac r) O<|mvZ (iZ s) O<|aa<|clZ O<|m4 h λr11 h=>asZ (ac r10) O<|asZ (ac r11) O<|asZ (iZ 0) O<|aD<|an (v:=ac r10) O<|an (v:=ac r11) O<|an (v:=iZ 0) O<|aI<|aJ hrg (VW.tupL<|vZ<|vZ<|vZ<|vn)<|hQ _ _ _ h)
theorem nV {a:List Int} {b:List Int} {Q:List Int->Prop} (h:jc a b Q) (hQ:∀r1,Q r1->R (ac r1) S) :
  Ctr Try.prog 60 [ac a,ac b] S R:=by
 refine aL Try.func60 rfl Try.ntmps60 Try.results60 krZ (λrg hrg=>?_)
 refine af<|asZ .nil O<|aT<|mvZ (ac a) O<|aa<|clZ O<|b7 h λa1 h=>mvZ (ac b) O<|aa<|clZ O<|b7 h λb1 h=>asZ (ac a1) O<|asZ (ac b1) O<|nZ<|qZ<|bZ<|lpZ h (λy=>aR [(0,ac y.1),(1,ac y.2)]) (λy=>stL S rg []) (am (fZ<|fZ<|fn)<|sn) (λy _ h=>?_)
 obtain⟨a2,b2⟩:=y
 refine qZ<|af<|mvZ (ac b2) O<|aa<|aB aG O<|aa<|eb O O<|nZ<|cZ h O (λhb h=>?_) (λhb h=>?_)
 ·exact kZ<|bZ<|af<|mvZ (ac a2) O<|mvZ (ac b2) O<|aa<|clZ O<|hH h λr r1 r2 h=>mvZ (.tuple [ac r,ac r1,iZ r2]) O<|aa<|aj (v:=ac r) O O O<|aa<|aj (v:=ac r1) O O O<|aa<|aj (v:=iZ r2) O O O<|asZ (ac r) O<|asZ (ac r1) O<|asZ (iZ r2) O<|nZ<|rZ<|mvZ (ac b2) O<|mvZ (ac r1) O<|asZ (ac b2) O<|asZ (ac r1) O<|nZ<|⟨(b2,r1),(am (fZ<|fZ<|fn)<|sn),h⟩
 exact xsZ<|af<|mvZ (ac a2) O<|asZ (ac a2) O<|aD<|gv1 hrg<|hQ _ h
end Go.Proofs.Ytnjgdkfhgmebjaa
namespace Go.Proofs.Ytnjgdkfhgmebjaa
open Go.Gg
set_option maxRecDepth 100000
variable {S:St} {R:AV->St->Prop}
theorem jt {a:List Int} {b:List Int} {Q:Bool->Prop} (h:gg a b Q) (hQ:∀r1,Q r1->R (AV.bool r1) S) :
  Ctr Try.prog 21 [ac a,ac b] S R:=by
 refine aL Try.func21 rfl Try.ntmps21 Try.results21 krZ (λrg hrg=>?_)
 refine af<|asZ (.bool false) O<|nZ<|qZ<|af<|mvZ (ac a) O<|aa<|aB aG O<|mvZ (ac b) O<|aa<|aB aG O<|aa<|dD O O<|nZ<|cZ h O (λhb h=>?_) (λhb h=>?_)
 ·exact af<|asZ (.bool false) O<|aD<|gv1 hrg<|hQ _ h
 refine kZ<|qZ<|af<|mvZ (ac a) O<|aa<|aB aG O<|mvZ (iZ 0) O<|nZ<|bZ<|lpZ h (λy=>aR [(0,ac a),(1,ac b),(12,iZ (a.length:Int)),(13,iZ y)]) (λy=>stL S rg []) (am (aP<|fn)<|sn) (λx _ h=>af<|aa<|bc O O<|nZ<|qZ<|cZ h O (λhb1 h=>?_) (λhb1 h=>?_))
 ·refine kZ<|qZ<|bZ<|af<|mvZ (iZ x) O<|asZ (iZ x) O<|nZ<|qZ<|tkZ h (λhg h=>tkZ h (λhg1 h=>Vc.drawn' bR rg (λ_=>fH) krZ<|dP O O<|ak (v:=ac a) O<|dP O O<|ak (v:=iZ x) O<|dP O O<|aQ aG a_ dZ (λ_=>O) O O hg<|dP O O<|aN a_ dG O O (v:=.int .u32 (at' a x)) O<|dP O O<|ak (v:=ac b) O<|dP O O<|ak (v:=iZ x) O<|dP O O<|aQ aG a_ dZ (λ_=>O) O O hg1<|dP O O<|aN a_ dG O O (v:=.int .u32 (at' b x)) O<|dP O O<|dD O O<|dN<|cZ h O (λhb2 h=>?_) (λhb2 h=>?_)))
  ·exact af<|asZ (.bool false) O<|aD<|gv1 hrg<|hQ _ h
  exact kZ<|rZ<|tkZ h (λhg2 h=>aa<|aC O O hg2<|mvZ (iZ<|x+1) O<|nZ<|⟨(x+1),(am (aP<|fn)<|sn),h⟩)
 exact xsZ<|af<|asZ (.bool true) O<|aD<|gv1 hrg<|hQ _ h
theorem dq {a:GRat} {b:GRat} {Q:Bool->Prop} (h:dU a b Q) (hQ:∀r1,Q r1->R (AV.bool r1) S) :
  Ctr Try.prog 10 [ae a,ae b] S R:=by
 refine aL Try.func10 rfl Try.ntmps10 Try.results10 krZ (λrg hrg=>?_)
 refine af<|wZ rg<|cp (v:=ae a) O O (kk:=3) O dZ (λg1=>wZ rg<|cp (v:=ae b) O O (kk:=3) O dZ (λg2=>asZ (.bool false) O<|aT<|aa<|aS lF O<|aa<|ag (aZ 2 O) sz4 ag4 O O (v:=.bool a.Neg) O<|aa<|aS lF O<|aa<|ag (aZ 3 O) sz4 ag4 O O (v:=.bool b.Neg) O<|aa<|tu td4 O O<|mvZ (.bool<|a.Neg == b.Neg) O<|gtZ h O O (λhb h=>?_) (λhb h=>?_)))
 ·refine aa<|aS ie O<|gTZ O O hb<|aa<|ag (aZ 2 O) gW iT O O (v:=ac a.Num) O<|gTZ O O hb<|aa<|aS ie O<|gTZ O O hb<|aa<|ag (aZ 3 O) gW iT O O (v:=ac b.Num) O<|gTZ O O hb<|aa<|clZ O<|jt h λr h=>aa<|aM O hb (v:=.bool r) O<|mvZ (.bool r) O<|gtZ h O O (λhb1 h=>?_) (λhb1 h=>?_)
  ·exact aa<|aS iP O<|gTZ O O hb1<|aa<|ag (aZ 2 O) gW iT O O (v:=ac a.Den) O<|gTZ O O hb1<|aa<|aS iP O<|gTZ O O hb1<|aa<|ag (aZ 3 O) gW iT O O (v:=ac b.Den) O<|gTZ O O hb1<|aa<|clZ O<|jt h λr1 h=>aa<|aM O hb1 (v:=.bool r1) O<|asZ (.bool r1) O<|aD<|gv1 hrg<|hQ _ h
  exact gFZ O O hb1 O<|gFZ O O hb1 O<|gFZ O O hb1 O<|gFZ O O hb1 O<|aa<|aE O hb1 (v:=.bool false) O<|asZ (.bool false) O<|aD<|gv1 hrg<|hQ _ h
 exact gFZ O O hb O<|gFZ O O hb O<|gFZ O O hb O<|gFZ O O hb O<|aa<|aE O hb (v:=.bool false) O<|mvZ (.bool false) O<|gFZ O O O O<|gFZ O O O O<|gFZ O O O O<|gFZ O O O O<|gFZ O O O O<|aa<|aE O O (v:=.bool false) O<|asZ (.bool false) O<|aD<|gv1 hrg<|hQ _ h
theorem ii {a:List GRat} {b:List GRat} {Q:Bool->Prop} (h:dT a b Q) (hQ:∀r1,Q r1->R (AV.bool r1) S) :
  Ctr Try.prog 9 [eL ae a,eL ae b] S R:=by
 refine aL Try.func9 rfl Try.ntmps9 Try.results9 krZ (λrg hrg=>?_)
 refine af<|asZ (.bool false) O<|nZ<|qZ<|af<|mvZ (eL ae a) O<|aa<|aB cD O<|mvZ (eL ae b) O<|aa<|aB cD O<|aa<|dD O O<|nZ<|cZ h O (λhb h=>?_) (λhb h=>?_)
 ·exact af<|asZ (.bool false) O<|aD<|gv1 hrg<|hQ _ h
 refine kZ<|qZ<|af<|mvZ (eL ae a) O<|aa<|aB cD O<|mvZ (iZ 0) O<|nZ<|bZ<|lpZ h (λy=>aR [(0,eL ae a),(1,eL ae b),(12,iZ (a.length:Int)),(13,iZ y)]) (λy=>stL S rg []) (am (aP<|fn)<|sn) (λx _ h=>af<|aa<|bc O O<|nZ<|qZ<|cZ h O (λhb1 h=>?_) (λhb1 h=>?_))
 ·refine kZ<|qZ<|bZ<|af<|mvZ (iZ x) O<|asZ (iZ x) O<|nZ<|qZ<|tkZ h (λhg h=>tkZ h (λhg1 h=>?_))
  obtain⟨r,hc,h⟩:=h
  refine Vc.drawn' bR rg (gV [(8,pc (.bool r))]) krZ<|dP O O<|ak (v:=eL ae a) O<|dP O O<|ak (v:=iZ x) O<|dP O O<|aQ cD aF dZ (λ_=>O) O O hg<|dP O O<|bL aF dZ bm O O (v:=ae (at' a x)) O<|dP O O<|ak (v:=eL ae b) O<|dP O O<|ak (v:=iZ x) O<|dP O O<|aQ cD aF dZ (λ_=>O) O O hg1<|dP O O<|bL aF dZ bm O O (v:=ae (at' b x)) O<|dC (vs:=[ae (at' a x),ae (at' b x)]) O (vZ<|vZ<|vn) (λ_=>dq hc (λ_ hr=>⟨by rw[hr],rfl⟩)) O<|dP O O<|ea O<|dN<|cZ h O (λhb2 h=>?_) (λhb2 h=>?_)
  ·exact af<|asZ (.bool false) O<|aD<|gv1 hrg<|hQ _ h
  exact kZ<|rZ<|tkZ h (λhg2 h=>aa<|aC O O hg2<|mvZ (iZ<|x+1) O<|nZ<|⟨(x+1),(am (aP<|fn)<|sn),h⟩)
 exact xsZ<|af<|asZ (.bool true) O<|aD<|gv1 hrg<|hQ _ h
theorem ff {Q:List Int->Prop} (h:eO Q) (hQ:∀r1,Q r1->R (ac r1) S) :
  Ctr Try.prog 34 [] S R:=by
 refine aL Try.func34 rfl Try.ntmps34 Try.results34 krZ (λrg hrg=>?_)
 exact af<|asZ .nil O<|aT<|wZ rg<|aY aG ec cC (es:=[.int .u32 1]) O (kk:=1) O O O O O O (λg1=>asZ (.sl 1 rg 1 g1 0<|[1].length) O<|aD<|an (v:=.sl 1 rg 1 g1 0 ([1].length)) O<|aI<|bK (k:=1) (xs:=List.map (AV.int .u32) [1]) O (v':=ac [1]) (a8 O)<|goZ hrg<|hQ _ h)
theorem gt {a:List Int} {Q:Bool->Prop} (h:d7 a Q) (hQ:∀r1,Q r1->R (AV.bool r1) S) :
  Ctr Try.prog 49 [ac a] S R:=by
 refine aL Try.func49 rfl Try.ntmps49 Try.results49 krZ (λrg hrg=>?_)
 refine af<|asZ (.bool false) O<|aT<|mvZ (ac a) O<|aa<|aB aG O<|aa<|eb O O<|mvZ (.bool<|decide<|0<(a.length:Int)) O<|gtZ h O O (λhb h=>?_) (λhb h=>?_)
 ·exact mvZ (ac a) O<|gTZ O O hb<|mvZ (ac a) O<|gTZ O O hb<|aa<|aB aG O<|gTZ O O hb<|tkZ h (λhg h=>aa<|bC O O hg<|gTZ O O hb<|tkZ h (λhg1 h=>aa<|aQ aG a_ dZ (λ_=>O) O O hg1<|gTZ O O hb<|aa<|aN a_ dG O O (v:=.int .u32 (at' a<|(a.length:Int)-1)) O (gTZ O O hb<|aa<|dD O O<|aa<|aM O hb (v:=.bool ((at' a<|(a.length:Int)-1) != 0)) O (asZ (.bool<|(at' a<|(a.length:Int)-1) != 0) O (aD<|gv1 hrg<|hQ _ h)))))
 exact gFZ O O hb O<|gFZ O O hb O<|gFZ O O hb O<|gFZ O O hb O<|gFZ O O hb O<|gFZ O O hb O<|aa<|aE O hb (v:=.bool false) O<|asZ (.bool false) O<|aD<|gv1 hrg<|hQ _ h
theorem gu {a:GRat} {Q:Bool->Prop} (h:d8 a Q) (hQ:∀r1,Q r1->R (AV.bool r1) S) :
  Ctr Try.prog 33 [ae a] S R:=by
 refine aL Try.func33 rfl Try.ntmps33 Try.results33 krZ (λrg hrg=>?_)
 refine af<|wZ rg<|cp (v:=ae a) O O (kk:=3) O dZ (λg1=>asZ (.bool false) O<|nZ<|qZ<|jgZ (γ:=Nat) h (λy=>aR [(1,.ptr rg 1 y.2 0 0),(12,.bool y.1)]) (λy=>stL S rg [(1,.arr 3 [ae a],y.2)]) (λy h=>?_) (λ_ h=>?_))
 ·obtain⟨x,g2⟩:=y
  refine cZ h O (λhb h=>?_) (λhb h=>?_)
  ·exact af<|aa<|aS lF O<|aa<|ag (aZ 1 O) sz4 ag4 O O (v:=.bool a.Neg) O<|aa<|ea O<|asZ (.bool<|!a.Neg) O<|aD<|gv1 hrg<|hQ _ h
  refine kZ<|af<|aa<|aS ie O<|aa<|ag (aZ 1 O) gW iT O O (v:=ac a.Num) O<|aa<|clZ O<|gt h λr h=>mvZ (.bool r) O<|gtZ h O O (λhb1 h=>?_) (λhb1 h=>?_)
  ·refine aa<|aS iP O<|gTZ O O hb1<|aa<|ag (aZ 1 O) gW iT O O (v:=ac a.Den) O<|gTZ O O hb1<|aa<|clZ O<|gt h λr1 h=>aa<|aM O hb1 (v:=.bool r1) O<|mvZ (.bool r1) O<|gtZ h O O (λhb2 h=>?_) (λhb2 h=>?_)
   ·exact aa<|aS ie O<|gTZ O O hb2<|aa<|ag (aZ 1 O) gW iT O O (v:=ac a.Num) O<|gTZ O O hb2<|aa<|aS iP O<|gTZ O O hb2<|aa<|ag (aZ 1 O) gW iT O O (v:=ac a.Den) O<|gTZ O O hb2<|aa<|clZ O<|iX h λr2 h=>gTZ O O hb2<|aa<|clZ O<|ff h λr3 h=>gTZ O O hb2<|aa<|clZ O<|du h λr4 h=>gTZ O O hb2<|aa<|cu O O<|aa<|aM O hb2 (v:=.bool (r4 == 0)) O<|asZ (.bool<|r4 == 0) O<|aD<|gv1 hrg<|hQ _ h
   exact gFZ O O hb2 O<|gFZ O O hb2 O<|gFZ O O hb2 O<|gFZ O O hb2 O<|gFZ O O hb2 O<|gFZ O O hb2 O<|gFZ O O hb2 O<|aa<|aE O hb2 (v:=.bool false) O<|asZ (.bool false) O<|aD<|gv1 hrg<|hQ _ h
  exact gFZ O O hb1 O<|gFZ O O hb1 O<|aa<|aE O hb1 (v:=.bool false) O<|mvZ (.bool false) O<|gFZ O O O O<|gFZ O O O O<|gFZ O O O O<|gFZ O O O O<|gFZ O O O O<|gFZ O O O O<|gFZ O O O O<|gFZ O O O O<|aa<|aE O O (v:=.bool false) O<|asZ (.bool false) O<|aD<|gv1 hrg<|hQ _ h
 refine rZ<|aa<|aS ie O<|aa<|ag (aZ 1 O) gW iT O O (v:=ac a.Num) O<|aa<|aB aG O<|aa<|cu O O<|mvZ (.bool<|(a.Num.length:Int) == 0) O<|gtZ h O O (λhb3 h=>?_) (λhb3 h=>?_)
 ·exact aa<|aS iP O<|gTZ O O hb3<|aa<|ag (aZ 1 O) gW iT O O (v:=ac a.Den) O<|gTZ O O hb3<|aa<|aB aG O<|gTZ O O hb3<|aa<|cu O O<|aa<|aM O hb3 (v:=.bool ((a.Den.length:Int) == 0)) O (nZ<|⟨(((a.Den.length:Int) == 0),g1),(am (fZ<|fZ<|fn)<|sc O<|sn),h⟩)
 exact gFZ O O hb3 O<|gFZ O O hb3 O<|gFZ O O hb3 O<|aa<|aE O hb3 (v:=.bool false) O<|nZ<|⟨(false,g1),(am (fZ<|fZ<|fn)<|sc O<|sn),h⟩
theorem bE {a:GRat} {Q:Bool->List Int->List Int->Prop} (h:bz a Q) (hQ:∀r1 r2 r3,Q r1 r2 r3->R (.tuple [AV.bool r1,ac r2,ac r3]) S) :
  Ctr Try.prog 22 [ae a] S R:=by
 refine aL Try.func22 rfl Try.ntmps22 Try.results22 krZ (λrg hrg=>?_)
 refine af<|wZ rg<|cp (v:=ae a) O O (kk:=3) O dZ (λg1=>asZ (.bool false) O<|asZ .nil O<|asZ .nil O<|nZ<|qZ<|jgZ (γ:=Nat) h (λy=>aR [(1,.ptr rg 1 y.2 0 0),(13,.bool y.1)]) (λy=>stL S rg [(1,.arr 3 [ae a],y.2)]) (λy h=>?_) (λ_ h=>?_))
 ·obtain⟨x,g2⟩:=y
  refine cZ h O (λhb h=>?_) (λhb h=>?_)
  ·exact af<|aa<|clZ O<|ff h λr h=>asZ (.bool false) O<|asZ .nil O<|asZ (ac r) O<|aD<|an (v:=.bool false) O<|an (v:=.nil) O<|an (v:=ac r) O<|aI<|aJ hrg (VW.tupL<|vZ<|vl' (VW.nilL)<|vZ<|vn)<|hQ _ _ _ h
  exact kZ<|qZ<|Vc.drawn' bR rg (λ_=>fH) krZ<|dP O O<|aS lF O<|dL (E:=([(rg,1)],[])) O O (by simp) (cfn) (ag (aZ 1 O) sz4 ag4 O O (v:=.bool a.Neg) O<|dP O O<|aS ie O<|dL (E:=([(rg,1)],[])) O O (by simp) (cfa (by simp[a9])<|cfn) (ag (aZ 1 O) gW iT O O (v:=ac a.Num) O<|dP O O<|aS iP O<|dL (E:=([(rg,1)],[])) O O (by simp) (cfa (by simp[a9])<|cfa (by simp[a9])<|cfn) (ag (aZ 1 O) gW iT O O (v:=ac a.Den) O<|dP O O<|aO (v:=.bool a.Neg) O<|dP O O<|aO (v:=ac a.Num) O<|dP O O<|aO (v:=ac a.Den) O<|dN<|uZ<|an (v:=.bool a.Neg) O<|an (v:=ac a.Num) O<|an (v:=ac a.Den) O<|aI<|aJ hrg (VW.tupL<|vZ<|vZ<|vZ<|vn)<|hQ _ _ _ h)))
 refine rZ<|aa<|aw (aZ 1 O) aF dZ bm O O (v:=ae a) O<|aa<|clZ O<|gu h λr1 h=>aa<|ea O<|mvZ (.bool<|!r1) O<|gfZ h O O (λhb1 h=>?_) (λhb1 h=>?_)
 ·exact aa<|aS ie O<|gTZ O O hb1<|aa<|ag (aZ 1 O) gW iT O O (v:=ac a.Num) O<|gTZ O O hb1<|aa<|aB aG O<|gTZ O O hb1<|aa<|cu O O<|aa<|aE O hb1 (v:=.bool ((a.Num.length:Int) == 0)) O (nZ<|⟨(((a.Num.length:Int) == 0),g1),(am (fZ<|fZ<|fn)<|sc O<|sn),h⟩)
 exact gFZ O O hb1 O<|gFZ O O hb1 O<|gFZ O O hb1 O<|aa<|aM O hb1 (v:=.bool true) O<|nZ<|⟨(true,g1),(am (fZ<|fZ<|fn)<|sc O<|sn),h⟩
theorem eP {a:GRat} {Q:Int->Prop} (h:cz a Q) (hQ:∀r1,Q r1->R (iZ r1) S) :
  Ctr Try.prog 11 [ae a] S R:=by
 refine aL Try.func11 rfl Try.ntmps11 Try.results11 krZ (λrg hrg=>?_)
 refine af<|wZ rg<|cp (v:=ae a) O O (kk:=3) O dZ (λg1=>asZ (iZ 0) O<|aT<|aa<|aw (aZ 1 O) aF dZ bm O O (v:=ae a) O<|aa<|clZ O<|bE h λr r1 r2 h=>mvZ (.tuple [.bool r,ac r1,ac r2]) O<|aa<|aj (v:=.bool r) O O O<|aa<|aj (v:=ac r1) O O O<|aa<|aj (v:=ac r2) O O O<|asZ (.bool r) O<|asZ (ac r1) O<|asZ (ac r2) O<|nZ<|qZ<|bZ<|af<|mvZ (ac r1) O<|aa<|aB aG O<|aa<|cu O O<|asZ (.bool<|(r1.length:Int) == 0) O<|nZ<|cZ h O (λhb h=>?_) (λhb h=>?_))
 ·exact af<|asZ (iZ 0) O<|aD<|gv1 hrg<|hQ _ h
 refine af<|mvZ (.bool r) O<|asZ (.bool r) O<|nZ<|cZ h O (λhb1 h=>?_) (λhb1 h=>?_)
 ·exact af<|asZ (iZ<|-1) O<|aD<|gv1 hrg<|hQ _ h
 exact kZ<|af<|asZ (iZ 1) O<|aD<|gv1 hrg<|hQ _ h
theorem kB {a:GRat} {Q:Bool->Prop} (h:fO a Q) (hQ:∀r1,Q r1->R (AV.bool r1) S) :
  Ctr Try.prog 37 [ae a] S R:=by
 refine aL Try.func37 rfl Try.ntmps37 Try.results37 krZ (λrg hrg=>?_)
 refine af<|wZ rg<|cp (v:=ae a) O O (kk:=3) O dZ (λg1=>asZ (.bool false) O<|aT<|aa<|aw (aZ 1 O) aF dZ bm O O (v:=ae a) O<|aa<|clZ O<|gu h λr h=>mvZ (.bool r) O<|gtZ h O O (λhb h=>?_) (λhb h=>?_))
 ·refine aa<|aS lF O<|gTZ O O hb<|aa<|ag (aZ 1 O) sz4 ag4 O O (v:=.bool a.Neg) O<|gTZ O O hb<|aa<|ea O<|aa<|aM O hb (v:=.bool (!a.Neg)) O<|mvZ (.bool<|!a.Neg) O<|gtZ h O O (λhb1 h=>?_) (λhb1 h=>?_)
  ·exact aa<|aS ie O<|gTZ O O hb1<|aa<|ag (aZ 1 O) gW iT O O (v:=ac a.Num) O<|gTZ O O hb1<|aa<|aS iP O<|gTZ O O hb1<|aa<|ag (aZ 1 O) gW iT O O (v:=ac a.Den) O<|gTZ O O hb1<|aa<|clZ O<|du h λr1 h=>gTZ O O hb1<|aa<|nk O O<|aa<|aM O hb1 (v:=.bool (decide<|r1<=0)) O (asZ (.bool<|decide<|r1<=0) O<|aD<|gv1 hrg<|hQ _ h)
  exact gFZ O O hb1 O<|gFZ O O hb1 O<|gFZ O O hb1 O<|gFZ O O hb1 O<|gFZ O O hb1 O<|aa<|aE O hb1 (v:=.bool false) O<|asZ (.bool false) O<|aD<|gv1 hrg<|hQ _ h
 exact gFZ O O hb O<|gFZ O O hb O<|aa<|aE O hb (v:=.bool false) O<|mvZ (.bool false) O<|gFZ O O O O<|gFZ O O O O<|gFZ O O O O<|gFZ O O O O<|gFZ O O O O<|gFZ O O O O<|aa<|aE O O (v:=.bool false) O<|asZ (.bool false) O<|aD<|gv1 hrg<|hQ _ h
theorem b9 {neg:Bool} {num:List Int} {den:List Int} {Q:GRat->Prop} (h:bF neg num den Q) (hQ:∀r1,Q r1->R (ae r1) S) :
  Ctr Try.prog 38 [AV.bool neg,ac num,ac den] S R:=by
 refine aL Try.func38 rfl Try.ntmps38 Try.results38 krZ (λrg hrg=>?_)
 refine af<|wZ rg<|bf bu dl (kk:=3) O (λg1=>nZ<|qZ<|af<|mvZ (ac num) O<|aa<|clZ O<|ly h λr h=>aa<|cu O O<|nZ<|cZ h O (λhb h=>?_) (λhb h=>?_))
 ·exact af<|aa<|cd j0 bu i3 iU aF (ps:=[]) O O (v:=.agg [.bool false,.nil,.nil]) O<|aa<|au (aZ 6 O) aF dZ O (w:=.agg [.bool false,.nil,.nil]) O O O (v:=.agg [.bool false,.nil,.nil]) O ba<|aD<|aX (aZ 6 O) aF dZ bm O O (v:=.agg [.bool false,.nil,.nil]) O<|aI<|aJ hrg (VW.aggL<|vZ<|vl' (VW.nilL)<|vl' (VW.nilL)<|vn)<|hQ _ h
 exact kZ<|af<|mvZ (ac num) O<|mvZ (ac den) O<|aa<|clZ O<|iX h λg2 h=>asZ (ac g2) O<|aT<|mvZ (ac num) O<|mvZ (ac g2) O<|aa<|clZ O<|fQ h λr1 r2 r3 h=>mvZ (.tuple [ac r1,ac r2,aW 62 r3]) O<|aa<|aj (v:=ac r1) O O O<|aa<|aj (v:=ac r2) O O O<|aa<|aj (v:=aW 62 r3) O O O<|asZ (ac r1) O<|asZ (ac r2) O<|asZ (aW 62 r3) O<|aT<|mvZ (ac den) O<|mvZ (ac g2) O<|aa<|clZ O<|fQ h λr4 r5 r6 h=>mvZ (.tuple [ac r4,ac r5,aW 62 r6]) O<|aa<|aj (v:=ac r4) O O O<|aa<|aj (v:=ac r5) O O O<|aa<|aj (v:=aW 62 r6) O O O<|asZ (ac r4) O<|asZ (ac r5) O<|asZ (aW 62 r6) O<|aT<|mvZ (.bool neg) O<|mvZ (ac r1) O<|mvZ (ac r4) O<|aa<|cd j0 bu i3 iU aF (ps:=[(0,.bool neg),(1,ac r1),(2,ac r4)]) O O (v:=.agg [.bool neg,ac r1,ac r4]) O (aa<|au (aZ 6 O) aF dZ O (w:=.agg [.bool neg,ac r1,ac r4]) O O O (v:=.agg [.bool neg,ac r1,ac r4]) O ba<|aD<|aX (aZ 6 O) aF dZ bm O O (v:=.agg [.bool neg,ac r1,ac r4]) O<|aI<|goZ hrg<|hQ _ h)
theorem fh {a:GRat} {b:GRat} {Q:GRat->Prop} (h:cK a b Q) (hQ:∀r1,Q r1->R (ae r1) S) :
  Ctr Try.prog 24 [ae a,ae b] S R:=by
 refine aL Try.func24 rfl Try.ntmps24 Try.results24 krZ (λrg hrg=>?_)
 exact af<|wZ rg<|cp (v:=ae a) O O (kk:=3) O dZ (λg1=>wZ rg<|cp (v:=ae b) O O (kk:=3) O dZ (λg2=>wZ rg<|bf bu dl (kk:=3) O (λg3=>aT<|aa<|aw (aZ 2 O) aF dZ bm O O (v:=ae a) O<|aa<|clZ O<|bE h λr r1 r2 h=>mvZ (.tuple [.bool r,ac r1,ac r2]) O<|aa<|aj (v:=.bool r) O O O<|aa<|aj (v:=ac r1) O O O<|aa<|aj (v:=ac r2) O O O<|asZ (.bool r) O<|asZ (ac r1) O<|asZ (ac r2) O<|aT<|aa<|aw (aZ 3 O) aF dZ bm O O (v:=ae b) O<|aa<|clZ O<|bE h λr3 r4 r5 h=>mvZ (.tuple [.bool r3,ac r4,ac r5]) O<|aa<|aj (v:=.bool r3) O O O<|aa<|aj (v:=ac r4) O O O<|aa<|aj (v:=ac r5) O O O<|asZ (.bool r3) O<|asZ (ac r4) O<|asZ (ac r5) O<|aT<|mvZ (.bool r) O<|mvZ (.bool r3) O<|aa<|qw td4 O O<|mvZ (ac r1) O<|mvZ (ac r4) O<|aa<|clZ O<|cA h λr6 h=>mvZ (ac r2) O<|mvZ (ac r5) O<|aa<|clZ O<|cA h λr7 h=>aa<|clZ O<|b9 h λr8 h=>aa<|au (aZ 4 O) aF dZ O (w:=ae r8) O O O (v:=ae r8) O ba<|aD<|aX (aZ 4 O) aF dZ bm O O (v:=ae r8) O<|aI<|goZ hrg<|hQ _ h)))
theorem li {a:GRat} {b:GRat} {Q:GRat->Prop} (h:gx a b Q) (hQ:∀r1,Q r1->R (ae r1) S) :
  Ctr Try.prog 40 [ae a,ae b] S R:=by
 refine aL Try.func40 rfl Try.ntmps40 Try.results40 krZ (λrg hrg=>?_)
 refine af<|wZ rg<|cp (v:=ae a) O O (kk:=3) O dZ (λg1=>wZ rg<|cp (v:=ae b) O O (kk:=3) O dZ (λg2=>wZ rg<|bf bu dl (kk:=3) O (λg3=>aT<|aa<|aw (aZ 2 O) aF dZ bm O O (v:=ae a) O<|aa<|clZ O<|bE h λr r1 r2 h=>mvZ (.tuple [.bool r,ac r1,ac r2]) O<|aa<|aj (v:=.bool r) O O O<|aa<|aj (v:=ac r1) O O O<|aa<|aj (v:=ac r2) O O O<|asZ (.bool r) O<|asZ (ac r1) O<|asZ (ac r2) O<|aT<|aa<|aw (aZ 3 O) aF dZ bm O O (v:=ae b) O<|aa<|clZ O<|bE h λr3 r4 r5 h=>mvZ (.tuple [.bool r3,ac r4,ac r5]) O<|aa<|aj (v:=.bool r3) O O O<|aa<|aj (v:=ac r4) O O O<|aa<|aj (v:=ac r5) O O O<|asZ (.bool r3) O<|asZ (ac r4) O<|asZ (ac r5) O<|aT<|mvZ (ac r1) O<|mvZ (ac r5) O<|aa<|clZ O<|cA h λp h=>mvZ (ac r4) O<|mvZ (ac r2) O<|aa<|clZ O<|cA h λq h=>asZ (ac p) O<|asZ (ac q) O<|aT<|mvZ (ac r2) O<|mvZ (ac r5) O<|aa<|clZ O<|cA h λden h=>asZ (ac den) O<|nZ<|qZ<|af<|mvZ (.bool r) O<|mvZ (.bool r3) O<|aa<|tu td4 O O<|nZ<|cZ h O (λhb h=>?_) (λhb h=>?_))))
 ·exact af<|mvZ (.bool r) O<|mvZ (ac p) O<|mvZ (ac q) O<|aa<|clZ O<|mu h λr6 h=>mvZ (ac den) O<|aa<|clZ O<|b9 h λr7 h=>aa<|au (aZ 4 O) aF dZ O (w:=ae r7) O O O (v:=ae r7) O ba<|aD<|aX (aZ 4 O) aF dZ bm O O (v:=ae r7) O<|aI<|goZ hrg<|hQ _ h
 refine kZ<|qZ<|af<|mvZ (ac p) O<|mvZ (ac q) O<|aa<|clZ O<|du h λr8 h=>aa<|eo O O<|nZ<|cZ h O (λhb1 h=>?_) (λhb1 h=>?_)
 ·exact af<|mvZ (ac p) O<|mvZ (ac q) O<|aa<|clZ O<|iW h λr9 r10 h=>mvZ (.tuple [ac r9,aW 62 r10]) O<|aa<|aj (v:=ac r9) O O O<|aa<|aj (v:=aW 62 r10) O O O<|asZ (ac r9) O<|asZ (aW 62 r10) O<|aT<|mvZ (.bool r) O<|mvZ (ac r9) O<|mvZ (ac den) O<|aa<|clZ O<|b9 h λr11 h=>aa<|au (aZ 4 O) aF dZ O (w:=ae r11) O O O (v:=ae r11) O ba<|aD<|aX (aZ 4 O) aF dZ bm O O (v:=ae r11) O<|aI<|goZ hrg<|hQ _ h
 exact kZ<|af<|mvZ (ac q) O<|mvZ (ac p) O<|aa<|clZ O<|iW h λr12 r13 h=>mvZ (.tuple [ac r12,aW 62 r13]) O<|aa<|aj (v:=ac r12) O O O<|aa<|aj (v:=aW 62 r13) O O O<|asZ (ac r12) O<|asZ (aW 62 r13) O<|aT<|mvZ (.bool r3) O<|mvZ (ac r12) O<|mvZ (ac den) O<|aa<|clZ O<|b9 h λr14 h=>aa<|au (aZ 4 O) aF dZ O (w:=ae r14) O O O (v:=ae r14) O ba<|aD<|aX (aZ 4 O) aF dZ bm O O (v:=ae r14) O<|aI<|goZ hrg<|hQ _ h
theorem lc {a:GRat} {Q:GRat->Prop} (h:gv a Q) (hQ:∀r1,Q r1->R (ae r1) S) :
  Ctr Try.prog 41 [ae a] S R:=by
 refine aL Try.func41 rfl Try.ntmps41 Try.results41 krZ (λrg hrg=>?_)
 exact af<|wZ rg<|cp (v:=ae a) O O (kk:=3) O dZ (λg1=>wZ rg<|bf bu dl (kk:=3) O (λg2=>aT<|aa<|aw (aZ 1 O) aF dZ bm O O (v:=ae a) O<|aa<|clZ O<|bE h λr r1 r2 h=>mvZ (.tuple [.bool r,ac r1,ac r2]) O<|aa<|aj (v:=.bool r) O O O<|aa<|aj (v:=ac r1) O O O<|aa<|aj (v:=ac r2) O O O<|asZ (.bool r) O<|asZ (ac r1) O<|asZ (ac r2) O<|aT<|mvZ (.bool r) O<|aa<|ea O<|mvZ (ac r1) O<|mvZ (ac r2) O<|aa<|clZ O<|b9 h λr3 h=>aa<|au (aZ 2 O) aF dZ O (w:=ae r3) O O O (v:=ae r3) O ba<|aD<|aX (aZ 2 O) aF dZ bm O O (v:=ae r3) O<|aI<|goZ hrg<|hQ _ h))
theorem d9 {a:GRat} {b:GRat} {Q:GRat->Prop} (h:co a b Q) (hQ:∀r1,Q r1->R (ae r1) S) :
  Ctr Try.prog 25 [ae a,ae b] S R:=by
 refine aL Try.func25 rfl Try.ntmps25 Try.results25 krZ (λrg hrg=>?_)
 refine af<|wZ rg<|cp (v:=ae a) O O (kk:=3) O dZ (λg1=>wZ rg<|cp (v:=ae b) O O (kk:=3) O dZ (λg2=>wZ rg<|bf bu dl (kk:=3) O (λg3=>nZ<|qZ ?_)))
 obtain⟨r,hc,h⟩:=h
 obtain⟨r1,hc1,h⟩:=h
 exact Vc.drawn' bR rg (gV [(2,pc (ae r)),(3,pc (ae r1))]) krZ<|dL (E:=([(rg,2)],[])) O O (by simp) (cfn) (aw (aZ 2 O) aF dZ bm O O (v:=ae a) O<|dL (E:=([(rg,3)],[])) O O (by simp) (cfa (by simp[a9])<|cfn) (aw (aZ 3 O) aF dZ bm O O (v:=ae b) O<|dC (vs:=[ae b]) O (vZ<|vn) (λ_=>lc hc (λ_ hr=>⟨by rw[hr],rfl⟩)) O<|dC (vs:=[ae a,ae r]) O (vZ<|vZ<|vn) (λ_=>li hc1 (λ_ hr=>⟨by rw[hr],rfl⟩)) O<|dL (E:=([],[(rg,4)])) O O (by simp) (cfo krZ<|cfo krZ<|cfn) (au (aZ 4 O) aF dZ O (w:=ae r1) O O O (v:=ae r1) O ba<|dN<|uZ<|aX (aZ 4 O) aF dZ bm O O (v:=ae r1) O<|aI<|goZ hrg<|hQ _ h)))
theorem kA {n:Int} {Q:List Int->Prop} (h:fN n Q) (hQ:∀r1,Q r1->R (ac r1) S) :
  Ctr Try.prog 42 [iZ n] S R:=by
 refine aL Try.func42 rfl Try.ntmps42 Try.results42 krZ (λrg hrg=>?_)
 refine af<|asZ .nil O<|nZ<|qZ<|af<|mvZ (iZ n) O<|aa<|cu O O<|nZ<|cZ h O (λhb h=>?_) (λhb h=>?_)
 ·exact af<|wZ rg<|aY aG ec cC (es:=[.int .u32 0,.int .u32 2147483648]) O (kk:=1) O O O O O O (λg1=>asZ (.sl 1 rg 5 g1 0<|[0,2147483648].length) O<|aD<|an (v:=.sl 1 rg 5 g1 0 ([0,2147483648].length)) O<|aI<|bK (k:=5) (xs:=List.map (AV.int .u32) [0,2147483648]) O (v':=ac [0,2147483648]) (a8 O)<|goZ hrg<|hQ _ h)
 exact kZ<|af<|mvZ (iZ n) O<|mvZ (iZ n) O<|tkZ h (λhg h=>aa<|v4 O hg<|aa<|ri O O<|aa<|clZ O<|jl h λr h=>asZ (ac r) O<|aD<|gv1 hrg<|hQ _ h)
theorem fP {n:Int} {Q:GRat->Prop} (h:dw n Q) (hQ:∀r1,Q r1->R (ae r1) S) :
  Ctr Try.prog 26 [iZ n] S R:=by
 refine aL Try.func26 rfl Try.ntmps26 Try.results26 krZ (λrg hrg=>?_)
 exact af<|wZ rg<|bf bu dl (kk:=3) O (λg1=>aT<|mvZ (iZ n) O<|aa<|bc O O<|mvZ (iZ n) O<|aa<|clZ O<|kA h λr h=>aa<|clZ O<|ff h λr1 h=>aa<|clZ O<|b9 h λr2 h=>aa<|au (aZ 2 O) aF dZ O (w:=ae r2) O O O (v:=ae r2) O ba<|aD<|aX (aZ 2 O) aF dZ bm O O (v:=ae r2) O<|aI<|goZ hrg<|hQ _ h)
theorem im {a:GRat} {b:GRat} {Q:GRat->Option Int->Prop} (h:c9 a b Q) (hQ:∀r1 r2,Q r1 r2->R (.tuple [ae r1,aW 62 r2]) S) :
  Ctr Try.prog 27 [ae a,ae b] S R:=by
 refine aL Try.func27 rfl Try.ntmps27 Try.results27 krZ (λrg hrg=>?_)
 refine af<|wZ rg<|cp (v:=ae a) O O (kk:=3) O dZ (λg1=>wZ rg<|cp (v:=ae b) O O (kk:=3) O dZ (λg2=>wZ rg<|bf bu dl (kk:=3) O (λg3=>asZ .niface O<|aT<|aa<|aw (aZ 2 O) aF dZ bm O O (v:=ae a) O<|aa<|clZ O<|bE h λr r1 r2 h=>mvZ (.tuple [.bool r,ac r1,ac r2]) O<|aa<|aj (v:=.bool r) O O O<|aa<|aj (v:=ac r1) O O O<|aa<|aj (v:=ac r2) O O O<|asZ (.bool r) O<|asZ (ac r1) O<|asZ (ac r2) O<|aT<|aa<|aw (aZ 3 O) aF dZ bm O O (v:=ae b) O<|aa<|clZ O<|bE h λr3 r4 r5 h=>mvZ (.tuple [.bool r3,ac r4,ac r5]) O<|aa<|aj (v:=.bool r3) O O O<|aa<|aj (v:=ac r4) O O O<|aa<|aj (v:=ac r5) O O O<|asZ (.bool r3) O<|asZ (ac r4) O<|asZ (ac r5) O<|nZ<|qZ<|af<|mvZ (ac r4) O<|aa<|aB aG O<|aa<|cu O O<|nZ<|cZ h O (λhb h=>?_) (λhb h=>?_))))
 ·exact af<|aa<|cd j0 bu i3 iU aF (ps:=[]) O O (v:=.agg [.bool false,.nil,.nil]) O<|aa<|bW (by rw[fX];trivial) (v:=iZ 8) O<|aa<|au (aZ 4 O) aF dZ O (w:=.agg [.bool false,.nil,.nil]) O O O (v:=.agg [.bool false,.nil,.nil]) O ba<|asZ (.iface 62<|iZ 8) O<|aD<|aX (aZ 4 O) aF dZ bm O O (v:=.agg [.bool false,.nil,.nil]) O<|an (v:=.iface 62 (iZ 8)) O<|aI<|aJ hrg (VW.tupL<|vl' (VW.aggL<|vZ<|vl' (VW.nilL)<|vl' (VW.nilL)<|vn)<|vZ<|vn)<|hQ _ _ h
 exact kZ<|af<|mvZ (.bool r) O<|mvZ (.bool r3) O<|aa<|qw td4 O O<|mvZ (ac r1) O<|mvZ (ac r5) O<|aa<|clZ O<|cA h λr6 h=>mvZ (ac r2) O<|mvZ (ac r4) O<|aa<|clZ O<|cA h λr7 h=>aa<|clZ O<|b9 h λr8 h=>aa<|au (aZ 4 O) aF dZ O (w:=ae r8) O O O (v:=ae r8) O ba<|asZ .niface O<|aD<|aX (aZ 4 O) aF dZ bm O O (v:=ae r8) O<|an (v:=.niface) O<|aI<|aJ hrg (VW.tupL<|vZ<|vZ<|vn)<|hQ _ _ h
theorem mZ {neg:Bool} {num:List Int} {den:List Int} {Q:GRat->Int->Prop} (h:iH neg num den Q) (hQ:∀r1 r2,Q r1 r2->R (.tuple [ae r1,iZ r2]) S) :
  Ctr Try.prog 43 [AV.bool neg,ac num,ac den] S R:=by
 refine aL Try.func43 rfl Try.ntmps43 Try.results43 krZ (λrg hrg=>?_)
 refine af<|wZ rg<|bf bu dl (kk:=3) O (λg1=>asZ (iZ 0) O<|nZ<|qZ<|af<|mvZ (ac den) O<|aa<|clZ O<|je h λr h=>aa<|cu O O<|nZ<|cZ h O (λhb h=>?_) (λhb h=>?_))
 ·exact af<|aa<|cd j0 bu i3 iU aF (ps:=[]) O O (v:=.agg [.bool false,.nil,.nil]) O<|aa<|au (aZ 6 O) aF dZ O (w:=.agg [.bool false,.nil,.nil]) O O O (v:=.agg [.bool false,.nil,.nil]) O ba<|asZ (iZ 8) O<|aD<|aX (aZ 6 O) aF dZ bm O O (v:=.agg [.bool false,.nil,.nil]) O<|an (v:=iZ 8) O<|aI<|aJ hrg (VW.tupL<|vl' (VW.aggL<|vZ<|vl' (VW.nilL)<|vl' (VW.nilL)<|vn)<|vZ<|vn)<|hQ _ _ h
 refine kZ<|qZ<|af<|mvZ (ac num) O<|aa<|clZ O<|je h λr1 h=>aa<|cu O O<|nZ<|cZ h O (λhb1 h=>?_) (λhb1 h=>?_)
 ·exact af<|aa<|cd j0 bu i3 iU aF (ps:=[]) O O (v:=.agg [.bool false,.nil,.nil]) O<|aa<|au (aZ 6 O) aF dZ O (w:=.agg [.bool false,.nil,.nil]) O O O (v:=.agg [.bool false,.nil,.nil]) O ba<|asZ (iZ 0) O<|aD<|aX (aZ 6 O) aF dZ bm O O (v:=.agg [.bool false,.nil,.nil]) O<|an (v:=iZ 0) O<|aI<|aJ hrg (VW.tupL<|vl' (VW.aggL<|vZ<|vl' (VW.nilL)<|vl' (VW.nilL)<|vn)<|vZ<|vn)<|hQ _ _ h
 exact kZ<|af<|mvZ (ac num) O<|mvZ (ac den) O<|aa<|clZ O<|nV h λg2 h=>asZ (ac g2) O<|aT<|mvZ (ac num) O<|mvZ (ac g2) O<|aa<|clZ O<|hH h λr2 r3 r4 h=>mvZ (.tuple [ac r2,ac r3,iZ r4]) O<|aa<|aj (v:=ac r2) O O O<|aa<|aj (v:=ac r3) O O O<|aa<|aj (v:=iZ r4) O O O<|asZ (ac r2) O<|asZ (ac r3) O<|asZ (iZ r4) O<|aT<|mvZ (ac den) O<|mvZ (ac g2) O<|aa<|clZ O<|hH h λr5 r6 r7 h=>mvZ (.tuple [ac r5,ac r6,iZ r7]) O<|aa<|aj (v:=ac r5) O O O<|aa<|aj (v:=ac r6) O O O<|aa<|aj (v:=iZ r7) O O O<|asZ (ac r5) O<|asZ (ac r6) O<|asZ (iZ r7) O<|aT<|mvZ (.bool neg) O<|mvZ (ac r2) O<|mvZ (ac r5) O<|aa<|cd j0 bu i3 iU aF (ps:=[(0,.bool neg),(1,ac r2),(2,ac r5)]) O O (v:=.agg [.bool neg,ac r2,ac r5]) O (aa<|au (aZ 6 O) aF dZ O (w:=.agg [.bool neg,ac r2,ac r5]) O O O (v:=.agg [.bool neg,ac r2,ac r5]) O ba<|asZ (iZ 0) O<|aD<|aX (aZ 6 O) aF dZ bm O O (v:=.agg [.bool neg,ac r2,ac r5]) O<|an (v:=iZ 0) O<|aI<|aJ hrg (VW.tupL<|vZ<|vZ<|vn)<|hQ _ _ h)
theorem ja {n:Int} {Q:List Int->Prop} (h:f8 n Q) (hQ:∀r1,Q r1->R (ac r1) S) :
  Ctr Try.prog 44 [iZ n] S R:=by
 refine aL Try.func44 rfl Try.ntmps44 Try.results44 krZ (λrg hrg=>?_)
 refine af<|asZ .nil O<|aT<|mvZ (iZ n) O<|aa<|bb td3 cR O<|asZ (.int .u64<|IntKind.wrap .u64 n) O<|nZ<|jnZ h (λy=>aR [(3,.int .u64 y)]) (λy=>stL S rg []) (λu h=>?_) (λ_ h=>?_)
 ·exact af<|mvZ (.int .u64 u) O<|aa<|bb cR cE O<|mvZ (.int .u64 u) O<|aa<|eQ O O dZ<|aa<|bb cR cE O<|wZ rg<|aY aG ec cC (es:=[.int .u32 (IntKind.wrap .u32 u),.int .u32 (IntKind.wrap .u32<|u / 2^(Int.toNat 32))]) O (kk:=1) O O O O O O (λg1=>asZ (.sl 1 rg 15 g1 0<|[(IntKind.wrap .u32 u),(IntKind.wrap .u32<|u / 2^(Int.toNat 32))].length) O<|aD<|an (v:=.sl 1 rg 15 g1 0 ([(IntKind.wrap .u32 u),(IntKind.wrap .u32<|u / 2^(Int.toNat 32))].length)) O (aI<|bK (k:=15) (xs:=List.map (AV.int .u32) [(IntKind.wrap .u32 u),(IntKind.wrap .u32<|u / 2^(Int.toNat 32))]) O (v':=ac [(IntKind.wrap .u32 u),(IntKind.wrap .u32<|u / 2^(Int.toNat 32))]) (a8 O) (goZ hrg<|hQ _ h)))
 refine af<|mvZ (iZ n) O<|aa<|bc O O<|nZ<|cZ h O (λhb h=>?_) (λhb h=>?_)
 ·exact rZ<|mvZ (.int .u64<|IntKind.wrap .u64 n) O<|aa<|vk O<|stZ h (λu1 hs h=>wZ rg<|aO (v:=.int .u64 u1) (by subst hs;rfl)<|nZ<|⟨u1,(am (fZ<|fn)<|sn),h⟩)
 exact kZ<|⟨(IntKind.wrap .u64 n),(am (fZ<|fn)<|sn),h⟩
theorem jb {n:Int} {d:Int} {Q:GRat->Int->Prop} (h:f_ n d Q) (hQ:∀r1 r2,Q r1 r2->R (.tuple [ae r1,iZ r2]) S) :
  Ctr Try.prog 28 [iZ n,iZ d] S R:=by
 refine aL Try.func28 rfl Try.ntmps28 Try.results28 krZ (λrg hrg=>?_)
 exact af<|wZ rg<|bf bu dl (kk:=3) O (λg1=>asZ (iZ 0) O<|aT<|mvZ (iZ n) O<|aa<|bc O O<|mvZ (iZ d) O<|aa<|bc O O<|aa<|qw td4 O O<|mvZ (iZ n) O<|aa<|clZ O<|ja h λr h=>mvZ (iZ d) O<|aa<|clZ O<|ja h λr1 h=>aa<|clZ O<|mZ h λr2 r3 h=>aa<|aj (v:=ae r2) O O O<|aa<|aj (v:=iZ r3) O O O<|aa<|au (aZ 4 O) aF dZ O (w:=ae r2) O O O (v:=ae r2) O ba<|asZ (iZ r3) O<|aD<|aX (aZ 4 O) aF dZ bm O O (v:=ae r2) O<|an (v:=iZ r3) O<|aI<|aJ hrg (VW.tupL<|vZ<|vZ<|vn)<|hQ _ _ h)
theorem oR {n:Int} {Q:GRat->Prop} (h:iG n Q) (hQ:∀r1,Q r1->R (ae r1) S) :
  Ctr Try.prog 15 [iZ n] S R:=by
 refine aL Try.func15 rfl Try.ntmps15 Try.results15 krZ (λrg hrg=>?_)
 exact af<|wZ rg<|bf bu dl (kk:=3) O (λg1=>aT<|mvZ (iZ n) O<|aa<|clZ O<|jb h λr r1 h=>mvZ (.tuple [ae r,iZ r1]) O<|aa<|aj (v:=ae r) O O O<|aa<|aj (v:=iZ r1) O O O<|wZ rg<|bf bu dl (kk:=3) O (λg2=>aa<|au (aZ 3 O) aF dZ O (w:=ae r) O O O (v:=ae r) O ba<|asZ (iZ r1) O<|aT<|aa<|aw (aZ 3 O) aF dZ bm O O (v:=ae r) O<|aa<|au (aZ 2 O) aF dZ O (w:=ae r) O O O (v:=ae r) O ba<|aD<|aX (aZ 2 O) aF dZ bm O O (v:=ae r) O<|aI<|goZ hrg<|hQ _ h))
theorem lh {a:GRat} {b:GRat} {Q:Int->Prop} (h:dJ a b Q) (hQ:∀r1,Q r1->R (iZ r1) S) :
  Ctr Try.prog 48 [ae a,ae b] S R:=by
 refine aL Try.func48 rfl Try.ntmps48 Try.results48 krZ (λrg hrg=>?_)
 exact af<|wZ rg<|cp (v:=ae a) O O (kk:=3) O dZ (λg1=>wZ rg<|cp (v:=ae b) O O (kk:=3) O dZ (λg2=>asZ (iZ 0) O<|aT<|aa<|aw (aZ 2 O) aF dZ bm O O (v:=ae a) O<|aa<|aw (aZ 3 O) aF dZ bm O O (v:=ae b) O<|aa<|clZ O<|d9 h λr h=>aa<|clZ O<|eP h λr1 h=>asZ (iZ r1) O<|aD<|gv1 hrg<|hQ _ h))
theorem n8 {a:List Int} {b:List Int} {Q:Bool->Prop} (h:ju a b Q) (hQ:∀r1,Q r1->R (AV.bool r1) S) :
  Ctr Try.prog 20 [cb a,cb b] S R:=by
 refine aL Try.func20 rfl Try.ntmps20 Try.results20 krZ (λrg hrg=>?_)
 refine af<|asZ (.bool false) O<|nZ<|qZ<|af<|mvZ (cb a) O<|aa<|aB ca O<|mvZ (cb b) O<|aa<|aB ca O<|aa<|dD O O<|nZ<|cZ h O (λhb h=>?_) (λhb h=>?_)
 ·exact af<|asZ (.bool false) O<|aD<|gv1 hrg<|hQ _ h
 refine kZ<|qZ<|af<|mvZ (cb a) O<|aa<|aB ca O<|mvZ (iZ 0) O<|nZ<|bZ<|lpZ h (λy=>aR [(0,cb a),(1,cb b),(12,iZ (a.length:Int)),(13,iZ y)]) (λy=>stL S rg []) (am (aP<|fn)<|sn) (λx _ h=>af<|aa<|bc O O<|nZ<|qZ<|cZ h O (λhb1 h=>?_) (λhb1 h=>?_))
 ·refine kZ<|qZ<|bZ<|af<|mvZ (iZ x) O<|asZ (iZ x) O<|nZ<|qZ<|tkZ h (λhg h=>tkZ h (λhg1 h=>Vc.drawn' bR rg (λ_=>fH) krZ<|dP O O<|ak (v:=cb a) O<|dP O O<|ak (v:=iZ x) O<|dP O O<|aQ ca sz3 dZ (λ_=>O) O O hg<|dP O O<|aN sz3 ag3 O O (v:=iZ (at' a x)) O<|dP O O<|ak (v:=cb b) O<|dP O O<|ak (v:=iZ x) O<|dP O O<|aQ ca sz3 dZ (λ_=>O) O O hg1<|dP O O<|aN sz3 ag3 O O (v:=iZ (at' b x)) O<|dP O O<|dD O O<|dN<|cZ h O (λhb2 h=>?_) (λhb2 h=>?_)))
  ·exact af<|asZ (.bool false) O<|aD<|gv1 hrg<|hQ _ h
  exact kZ<|rZ<|tkZ h (λhg2 h=>aa<|aC O O hg2<|mvZ (iZ<|x+1) O<|nZ<|⟨(x+1),(am (aP<|fn)<|sn),h⟩)
 exact xsZ<|af<|asZ (.bool true) O<|aD<|gv1 hrg<|hQ _ h
theorem lJ {a:GFormula} {b:GFormula} {Q:Bool->Prop} (h:gL a b Q) (hQ:∀r1,Q r1->R (AV.bool r1) S) :
  Ctr Try.prog 8 [aq a,aq b] S R:=by
 refine aL Try.func8 rfl Try.ntmps8 Try.results8 krZ (λrg hrg=>?_)
 refine af<|wZ rg<|cp (v:=aq a) O O (kk:=3) O dZ (λg1=>wZ rg<|cp (v:=aq b) O O (kk:=3) O dZ (λg2=>asZ (.bool false) O<|nZ<|qZ<|af<|aa<|aS c5 O<|aa<|ag (aZ 2 O) sz3 ag3 O O (v:=iZ a.Vars) O<|aa<|aS c5 O<|aa<|ag (aZ 3 O) sz3 ag3 O O (v:=iZ b.Vars) O<|aa<|dD O O<|mvZ (.bool<|a.Vars != b.Vars) O<|gfZ h O O (λhb h=>?_) (λhb h=>?_)))
 ·refine aa<|aS nC O<|gTZ O O hb<|aa<|ag (aZ 2 O) sz3 ag3 O O (v:=iZ a.Top) O<|gTZ O O hb<|aa<|aS nC O<|gTZ O O hb<|aa<|ag (aZ 3 O) sz3 ag3 O O (v:=iZ b.Top) O<|gTZ O O hb<|aa<|dD O O<|aa<|aE O hb (v:=.bool (a.Top != b.Top)) O<|mvZ (.bool<|a.Top != b.Top) O<|gfZ h O O (λhb1 h=>?_) (λhb1 h=>?_)
  ·refine aa<|aS bM O<|gTZ O O hb1<|aa<|ag (aZ 2 O) d3 eG O O (v:=eL br a.Nodes) O<|gTZ O O hb1<|aa<|aB dI O<|gTZ O O hb1<|aa<|aS bM O<|gTZ O O hb1<|aa<|ag (aZ 3 O) d3 eG O O (v:=eL br b.Nodes) O<|gTZ O O hb1<|aa<|aB dI O<|gTZ O O hb1<|aa<|dD O O<|aa<|aE O hb1 (v:=.bool ((a.Nodes.length:Int) != (b.Nodes.length:Int))) O (nZ<|cZ h O (λhb2 h=>?_) (λhb2 h=>?_))
   ·exact af<|asZ (.bool false) O<|aD<|gv1 hrg<|hQ _ h
   refine kZ<|qZ<|af<|aa<|aS bM O<|aa<|ag (aZ 2 O) d3 eG O O (v:=eL br a.Nodes) O<|aa<|aB dI O<|mvZ (iZ 0) O<|nZ<|bZ<|lpZ h (λy=>aR [(2,.ptr rg 2 g1 0 0),(3,.ptr rg 3 g2 0 0),(29,iZ (a.Nodes.length:Int)),(30,iZ y)]) (λy=>stL S rg [(2,.arr 3 [aq a],g1),(3,.arr 3 [aq b],g2)]) (am (aP<|fn)<|sc O<|sc O<|sn) (λx _ h=>af<|aa<|bc O O<|nZ<|qZ<|cZ h O (λhb3 h=>?_) (λhb3 h=>?_))
   ·refine kZ<|qZ<|bZ<|af<|mvZ (iZ x) O<|asZ (iZ x) O<|nZ<|qZ<|tkZ h (λhg h=>tkZ h (λhg1 h=>bcZ h (λhb4 h=>?_) (λhb4 h=>?_)))
    ·exact Vc.drawn' bR rg (λ_=>fH) krZ<|dP O O<|aS bM O<|dL (E:=([(rg,2)],[])) O O (by simp) (cfn) (ag (aZ 2 O) d3 eG O O (v:=eL br a.Nodes) O<|dP O O<|ak (v:=iZ x) O<|dP O O<|aQ dI fB dZ (λ_=>O) O O hg<|dP O O<|faZ gG O O<|dP O O<|aN sz3 ag3 O O (v:=iZ ((at' a.Nodes x).Kind)) O (dP O O<|aS bM O<|dL (E:=([(rg,3)],[])) O O (by simp) (cfa (by simp[a9])<|cfn) (ag (aZ 3 O) d3 eG O O (v:=eL br b.Nodes) O<|dP O O<|ak (v:=iZ x) O<|dP O O<|aQ dI fB dZ (λ_=>O) O O hg1<|dP O O<|faZ gG O O<|dP O O<|aN sz3 ag3 O O (v:=iZ ((at' b.Nodes x).Kind)) O (dP O O<|dD O O<|dP O O<|ak (v:=.bool ((at' a.Nodes x).Kind != (at' b.Nodes x).Kind)) O (dGF O O hb4 O<|dGF O O O O<|dGF O O O O<|dGF O O O O<|dGF O O O O<|dGF O O O O<|dGF O O O O<|dGF O O O O<|dGF O O O O<|dGF O O O O<|dGF O O O O<|dGF O O O O<|dGF O O O O<|dP O O<|aM O O (v:=.bool true) O<|dP O O<|ak (v:=.bool true) O<|dGF O O O O<|dGF O O O O<|dGF O O O O<|dGF O O O O<|dGF O O O O<|dGF O O O O<|dGF O O O O<|dGF O O O O<|dGF O O O O<|dGF O O O O<|dGF O O O O<|dGF O O O O<|dGF O O O O<|dGF O O O O<|dP O O<|aM O O (v:=.bool true) O<|dN<|cTZ O O<|af<|asZ (.bool false) O<|aD<|gv1 hrg<|hQ _ h)))))
    refine tkZ h (λhg2 h=>tkZ h (λhg3 h=>bcZ h (λhb5 h=>?_) (λhb5 h=>?_)))
    ·refine Vc.drawn' bR rg (λ_=>fH) krZ<|dP O O<|aS bM O<|dL (E:=([(rg,2)],[])) O O (by simp) (cfn) (ag (aZ 2 O) d3 eG O O (v:=eL br a.Nodes) O<|dP O O<|ak (v:=iZ x) O<|dP O O<|aQ dI fB dZ (λ_=>O) O O hg<|dP O O<|faZ gG O O<|dP O O<|aN sz3 ag3 O O (v:=iZ ((at' a.Nodes x).Kind)) O (dP O O<|aS bM O<|dL (E:=([(rg,3)],[])) O O (by simp) (cfa (by simp[a9])<|cfn) (ag (aZ 3 O) d3 eG O O (v:=eL br b.Nodes) O<|dP O O<|ak (v:=iZ x) O<|dP O O<|aQ dI fB dZ (λ_=>O) O O hg1<|dP O O<|faZ gG O O<|dP O O<|aN sz3 ag3 O O (v:=iZ ((at' b.Nodes x).Kind)) O (dP O O<|dD O O<|dP O O<|ak (v:=.bool ((at' a.Nodes x).Kind != (at' b.Nodes x).Kind)) O (dGT O O hb4<|dP O O<|aS bM O<|dGT O O O<|dL (E:=([(rg,2)],[])) O O (by simp) (cfo krZ<|cfo krZ<|cfn) (ag (aZ 2 O) d3 eG O O (v:=eL br a.Nodes) O<|dGT O O O<|dP O O<|ak (v:=iZ x) O<|dGT O O O<|dP O O<|aQ dI fB dZ (λ_=>O) O O hg2<|dGT O O O<|dP O O<|faZ ib O O<|dGT O O O<|dP O O<|aN sz3 ag3 O O (v:=iZ ((at' a.Nodes x).K)) O (dGT O O O<|dP O O<|aS bM O<|dGT O O O<|dL (E:=([(rg,3)],[])) O O (by simp) (cfa (by simp[a9])<|cfo krZ<|cfo krZ<|cfn) (ag (aZ 3 O) d3 eG O O (v:=eL br b.Nodes) O<|dGT O O O<|dP O O<|ak (v:=iZ x) O<|dGT O O O ?_))))))))
     exact dP O O<|aQ dI fB dZ (λ_=>O) O O hg3<|dGT O O O<|dP O O<|faZ ib O O<|dGT O O O<|dP O O<|aN sz3 ag3 O O (v:=iZ ((at' b.Nodes x).K)) O (dGT O O O<|dP O O<|dD O O<|dP O O<|aE O O (v:=.bool ((at' a.Nodes x).K != (at' b.Nodes x).K)) O (dP O O<|ak (v:=.bool ((at' a.Nodes x).K != (at' b.Nodes x).K)) O (dGF O O hb5 O<|dGF O O O O<|dGF O O O O<|dGF O O O O<|dGF O O O O<|dGF O O O O<|dGF O O O O<|dGF O O O O<|dGF O O O O<|dGF O O O O<|dGF O O O O<|dGF O O O O<|dGF O O O O<|dGF O O O O<|dP O O<|aM O O (v:=.bool true) O<|dN<|cTZ O O<|af<|asZ (.bool false) O<|aD<|gv1 hrg<|hQ _ h)))
    refine tkZ h (λhg4 h=>tkZ h (λhg5 h=>?_))
    obtain⟨r,hc,h⟩:=h
    refine Vc.drawn' bR rg (gV [(41,pc (.bool r))]) krZ<|dP O O<|aS bM O<|dL (E:=([(rg,2)],[])) O O (by simp) (cfn) (ag (aZ 2 O) d3 eG O O (v:=eL br a.Nodes) O<|dP O O<|ak (v:=iZ x) O<|dP O O<|aQ dI fB dZ (λ_=>O) O O hg<|dP O O<|faZ gG O O<|dP O O<|aN sz3 ag3 O O (v:=iZ ((at' a.Nodes x).Kind)) O (dP O O<|aS bM O<|dL (E:=([(rg,3)],[])) O O (by simp) (cfa (by simp[a9])<|cfn) (ag (aZ 3 O) d3 eG O O (v:=eL br b.Nodes) O<|dP O O<|ak (v:=iZ x) O<|dP O O<|aQ dI fB dZ (λ_=>O) O O hg1<|dP O O<|faZ gG O O<|dP O O<|aN sz3 ag3 O O (v:=iZ ((at' b.Nodes x).Kind)) O (dP O O<|dD O O<|dP O O<|ak (v:=.bool ((at' a.Nodes x).Kind != (at' b.Nodes x).Kind)) O (dGT O O hb4<|dP O O<|aS bM O<|dGT O O O<|dL (E:=([(rg,2)],[])) O O (by simp) (cfo krZ<|cfo krZ<|cfn) (ag (aZ 2 O) d3 eG O O (v:=eL br a.Nodes) O<|dGT O O O<|dP O O<|ak (v:=iZ x) O<|dGT O O O<|dP O O<|aQ dI fB dZ (λ_=>O) O O hg2<|dGT O O O<|dP O O<|faZ ib O O<|dGT O O O<|dP O O<|aN sz3 ag3 O O (v:=iZ ((at' a.Nodes x).K)) O (dGT O O O<|dP O O<|aS bM O<|dGT O O O<|dL (E:=([(rg,3)],[])) O O (by simp) (cfa (by simp[a9])<|cfo krZ<|cfo krZ<|cfn) (ag (aZ 3 O) d3 eG O O (v:=eL br b.Nodes) O<|dGT O O O<|dP O O<|ak (v:=iZ x) O<|dGT O O O ?_))))))))
    refine dP O O<|aQ dI fB dZ (λ_=>O) O O hg3<|dGT O O O<|dP O O<|faZ ib O O<|dGT O O O<|dP O O<|aN sz3 ag3 O O (v:=iZ ((at' b.Nodes x).K)) O (dGT O O O<|dP O O<|dD O O<|dP O O<|aE O O (v:=.bool ((at' a.Nodes x).K != (at' b.Nodes x).K)) O (dP O O<|ak (v:=.bool ((at' a.Nodes x).K != (at' b.Nodes x).K)) O (dGT O O hb5<|dP O O<|aS bM O<|dGT O O O<|dL (E:=([(rg,2)],[])) O O (by simp) (cfo krZ<|cfo krZ<|cfo krZ<|cfo krZ<|cfn) (ag (aZ 2 O) d3 eG O O (v:=eL br a.Nodes) O<|dGT O O O<|dP O O<|ak (v:=iZ x) O<|dGT O O O<|dP O O<|aQ dI fB dZ (λ_=>O) O O hg4<|dGT O O O<|dP O O<|faZ iO O O<|dGT O O O<|dP O O<|aN fY iy O O (v:=cb ((at' a.Nodes x).Args)) O (dGT O O O<|dP O O<|aS bM O<|dGT O O O<|dL (E:=([(rg,3)],[])) O O (by simp) (cfa (by simp[a9])<|cfo krZ<|cfo krZ<|cfo krZ<|cfo krZ<|cfn) (ag (aZ 3 O) d3 eG O O (v:=eL br b.Nodes) O<|dGT O O O<|dP O O<|ak (v:=iZ x) O<|dGT O O O<|dP O O<|aQ dI fB dZ (λ_=>O) O O hg5<|dGT O O O<|dP O O<|faZ iO O O<|dGT O O O<|dP O O<|aN fY iy O O (v:=cb ((at' b.Nodes x).Args)) O (dGT O O O<|dC (vs:=[cb ((at' a.Nodes x).Args),cb ((at' b.Nodes x).Args)]) O (vZ<|vZ<|vn) (λ_=>n8 hc (λ_ hr=>⟨by rw[hr],rfl⟩)) O<|dGT O O O<|dP O O<|ea O<|dP O O<|aE O O (v:=.bool (!r)) O<|dN ?_)))))))
    refine cZ h O (λhb6 h=>?_) (λhb6 h=>?_)
    ·exact af<|asZ (.bool false) O<|aD<|gv1 hrg<|hQ _ h
    exact kZ<|rZ<|tkZ h (λhg6 h=>aa<|aC O O hg6<|mvZ (iZ<|x+1) O<|nZ<|⟨(x+1),(am (aP<|fn)<|sc O<|sc O<|sn),h⟩)
   exact xsZ<|af<|asZ (.bool true) O<|aD<|gv1 hrg<|hQ _ h
  exact gFZ O O hb1 O<|gFZ O O hb1 O<|gFZ O O hb1 O<|gFZ O O hb1 O<|gFZ O O hb1 O<|gFZ O O hb1 O<|aa<|aM O hb1 (v:=.bool true) O<|nZ<|cTZ O O<|af<|asZ (.bool false) O<|aD<|gv1 hrg<|hQ _ h
 exact gFZ O O hb O<|gFZ O O hb O<|gFZ O O hb O<|gFZ O O hb O<|aa<|aM O hb (v:=.bool true) O<|mvZ (.bool true) O<|gFZ O O O O<|gFZ O O O O<|gFZ O O O O<|gFZ O O O O<|gFZ O O O O<|gFZ O O O O<|gFZ O O O O<|aa<|aM O O (v:=.bool true) O<|nZ<|cTZ O O<|af<|asZ (.bool false) O<|aD<|gv1 hrg<|hQ _ h
end Go.Proofs.Ytnjgdkfhgmebjaa
namespace Go.Proofs.Ytnjgdkfhgmebjaa
open Go.Gg
set_option maxRecDepth 100000
variable {S:St} {R:AV->St->Prop}
theorem i7 {kind:Int} {n:Int} {Q:Bool->Prop} (h:eg kind n Q) (hQ:∀r1,Q r1->R (AV.bool r1) S) :
  Ctr Try.prog 62 [iZ kind,iZ n] S R:=by
 refine aL Try.func62 rfl Try.ntmps62 Try.results62 krZ (λrg hrg=>?_)
 refine af<|asZ (.bool false) O<|nZ<|qZ<|af<|mvZ (iZ kind) O<|nZ<|bZ<|af<|aa<|cu O O<|asZ (.bool<|kind == 0) O<|nZ<|cZ h O (λhb h=>?_) (λhb h=>?_)
 ·exact af<|mvZ (iZ n) O<|aa<|cu O O<|asZ (.bool<|n == 0) O<|aD<|gv1 hrg<|hQ _ h
 refine af<|aa<|cu O O<|asZ (.bool<|kind == 1) O<|nZ<|cZ h O (λhb1 h=>?_) (λhb1 h=>?_)
 ·exact af<|mvZ (iZ n) O<|aa<|cu O O<|asZ (.bool<|n == 1) O<|aD<|gv1 hrg<|hQ _ h
 refine kZ<|af<|mvZ (iZ n) O<|aa<|eo O O<|mvZ (.bool<|decide<|1<=n) O<|gtZ h O O (λhb2 h=>?_) (λhb2 h=>?_)
 ·exact mvZ (iZ n) O<|gTZ O O hb2<|aa<|nk O O<|aa<|aM O hb2 (v:=.bool (decide<|n<=16)) O (asZ (.bool<|decide<|n<=16) O<|aD<|gv1 hrg<|hQ _ h)
 exact gFZ O O hb2 O<|aa<|aE O hb2 (v:=.bool false) O<|asZ (.bool false) O<|aD<|gv1 hrg<|hQ _ h
theorem i6 {f:GFormula} {i:Int} {Q:Option Int->Prop} (h:ee f i Q) (hQ:∀r1,Q r1->R (aW 62 r1) S) :
  Ctr Try.prog 45 [aq f,iZ i] S R:=by
 refine aL Try.func45 rfl Try.ntmps45 Try.results45 krZ (λrg hrg=>?_)
 refine af<|wZ rg<|cp (v:=aq f) O O (kk:=3) O dZ (λg1=>asZ .niface O<|aT<|aa<|aS bM O<|aa<|ag (aZ 2 O) d3 eG O O (v:=eL br f.Nodes) O<|mvZ (iZ i) O<|tkZ h (λhg h=>aa<|aQ dI fB dZ (λ_=>O) O O hg<|aa<|bL fB dZ uX O O (v:=br (at' f.Nodes i)) O<|wZ rg<|bf ij nY (kk:=3) O (λg2=>aa<|au (aZ 5 O) fB dZ O (w:=br (at' f.Nodes i)) O O O (v:=br (at' f.Nodes i)) O ba<|nZ<|qZ<|jgZ (γ:=Nat×Nat) h (λy=>aR [(1,iZ i),(2,.ptr rg 2 y.2.1 0 0),(5,.ptr rg 5 y.2.2 0 0),(20,.bool y.1)]) (λy=>stL S rg [(2,.arr 3 [aq f],y.2.1),(5,.arr 3 [br (at' f.Nodes i)],y.2.2)]) (λy h=>?_) (λ_ h=>?_))))
 ·obtain⟨x,⟨g3,g4⟩⟩:=y
  refine cZ h O (λhb h=>?_) (λhb h=>?_)
  ·exact af<|aa<|bW (by rw[fX];trivial) (v:=iZ 7) O<|asZ (.iface 62<|iZ 7) O<|aD<|gv1 hrg<|hQ _ h
  refine kZ<|qZ<|af<|aa<|aS gG O<|aa<|ag (aZ 5 O) sz3 ag3 O O (v:=iZ ((at' f.Nodes i).Kind)) O (aa<|aS iO O<|aa<|ag (aZ 5 O) fY iy O O (v:=cb ((at' f.Nodes i).Args)) O (aa<|aB ca O<|aa<|clZ O<|i7 h λr h=>aa<|ea O<|nZ<|cZ h O (λhb1 h=>?_) (λhb1 h=>?_)))
  ·exact af<|aa<|bW (by rw[fX];trivial) (v:=iZ 11) O<|asZ (.iface 62<|iZ 11) O<|aD<|gv1 hrg<|hQ _ h
  refine kZ<|qZ<|af<|aa<|aS iO O<|aa<|ag (aZ 5 O) fY iy O O (v:=cb ((at' f.Nodes i).Args)) O (aa<|aB ca O<|mvZ (iZ 0) O<|nZ<|bZ<|lgZ h (g3,g4) (λy=>aR [(1,iZ i),(2,.ptr rg 2 y.2.1 0 0),(5,.ptr rg 5 y.2.2 0 0),(31,cb ((at' f.Nodes i).Args)),(32,iZ (((at' f.Nodes i).Args).length:Int)),(33,iZ y.1)]) (λy=>stL S rg [(2,.arr 3 [aq f],y.2.1),(5,.arr 3 [br (at' f.Nodes i)],y.2.2)]) (am (aP<|fZ<|fZ<|fn)<|sc O<|sc O<|sn) (λy _ h=>?_))
  obtain⟨x1,⟨g5,g6⟩⟩:=y
  refine af<|aa<|bc O O<|nZ<|qZ<|cZ h O (λhb2 h=>?_) (λhb2 h=>?_)
  ·refine kZ<|qZ<|bZ<|af<|tkZ h (λhg1 h=>aa<|aQ ca sz3 dZ (λ_=>O) O O hg1<|aa<|aN sz3 ag3 O O (v:=iZ (at' ((at' f.Nodes i).Args) x1)) O (asZ (iZ<|at' ((at' f.Nodes i).Args) x1) O<|nZ<|jgZ (γ:=Nat×Nat) h (λy=>aR [(1,iZ i),(2,.ptr rg 2 y.2.1 0 0),(5,.ptr rg 5 y.2.2 0 0),(31,cb ((at' f.Nodes i).Args)),(32,iZ (((at' f.Nodes i).Args).length:Int)),(33,iZ x1),(46,.bool y.1)]) (λy=>stL S rg [(2,.arr 3 [aq f],y.2.1),(5,.arr 3 [br (at' f.Nodes i)],y.2.2)]) (λy h=>?_) (λ_ h=>?_)))
   ·obtain⟨x2,⟨g7,g8⟩⟩:=y
    refine cZ h O (λhb3 h=>?_) (λhb3 h=>?_)
    ·exact af<|aa<|bW (by rw[fX];trivial) (v:=iZ 10) O<|asZ (.iface 62<|iZ 10) O<|aD<|gv1 hrg<|hQ _ h
    exact kZ<|rZ<|tkZ h (λhg2 h=>aa<|aC O O hg2<|mvZ (iZ<|x1+1) O<|nZ<|⟨((x1+1),(g7,g8)),(am (aP<|fZ<|fZ<|fn)<|sc O<|sc O<|sn),h⟩)
   refine rZ<|mvZ (iZ<|at' ((at' f.Nodes i).Args) x1) O<|aa<|bc O O<|mvZ (.bool<|decide<|(at' ((at' f.Nodes i).Args) x1)<0) O (gfZ h O O (λhb4 h=>?_) (λhb4 h=>?_))
   ·exact mvZ (iZ<|at' ((at' f.Nodes i).Args) x1) O<|gTZ O O hb4<|aa<|aS c5 O<|gTZ O O hb4<|aa<|ag (aZ 2 O) sz3 ag3 O O (v:=iZ f.Vars) O<|gTZ O O hb4<|mvZ (iZ i) O<|gTZ O O hb4<|tkZ h (λhg3 h=>aa<|aC O O hg3<|gTZ O O hb4<|aa<|eo O O<|aa<|aE O hb4 (v:=.bool (decide<|(f.Vars+i)<=(at' ((at' f.Nodes i).Args) x1))) O (nZ<|⟨((decide<|(f.Vars+i)<=(at' ((at' f.Nodes i).Args) x1)),(g5,g6)),(am (aP<|fZ<|fZ<|fZ<|fn)<|sc O<|sc O<|sn),h⟩))
   exact gFZ O O hb4 O<|gFZ O O hb4 O<|gFZ O O hb4 O<|gFZ O O hb4 O<|gFZ O O hb4 O<|aa<|aM O hb4 (v:=.bool true) O<|nZ<|⟨(true,(g5,g6)),(am (aP<|fZ<|fZ<|fZ<|fn)<|sc O<|sc O<|sn),h⟩
  refine xsZ<|qZ<|af<|aa<|aS gG O<|aa<|ag (aZ 5 O) sz3 ag3 O O (v:=iZ ((at' f.Nodes i).Kind)) O (nZ<|bZ<|af<|aa<|cu O O<|asZ (.bool<|(at' f.Nodes i).Kind == 0) O<|nZ<|cZ h O (λhb5 h=>?_) (λhb5 h=>?_))
  ·refine jnZ h (λy=>aR [(64,.bool y)]) (λy=>stL S rg []) (λx3 h=>?_) (λ_ h=>?_)
   ·refine cZ h O (λhb6 h=>?_) (λhb6 h=>?_)
    ·exact af<|aa<|bW (by rw[fX];trivial) (v:=iZ 3) O<|asZ (.iface 62<|iZ 3) O<|aD<|gv1 hrg<|hQ _ h
    exact kZ<|af<|asZ .niface O<|aD<|gv1 hrg<|hQ _ h
   refine rZ<|aa<|aS ib O<|aa<|ag (aZ 5 O) sz3 ag3 O O (v:=iZ ((at' f.Nodes i).K)) O (aa<|dD O O<|mvZ (.bool<|(at' f.Nodes i).K != 0) O<|gtZ h O O (λhb7 h=>?_) (λhb7 h=>?_))
   ·exact aa<|aS ib O<|gTZ O O hb7<|aa<|ag (aZ 5 O) sz3 ag3 O O (v:=iZ ((at' f.Nodes i).K)) O (gTZ O O hb7<|aa<|dD O O<|aa<|aM O hb7 (v:=.bool ((at' f.Nodes i).K != 1)) O (nZ<|⟨((at' f.Nodes i).K != 1),(am (fZ<|fn)<|sn),h⟩))
   exact gFZ O O hb7 O<|gFZ O O hb7 O<|aa<|aE O hb7 (v:=.bool false) O<|nZ<|⟨false,(am (fZ<|fn)<|sn),h⟩
  refine af<|aa<|cu O O<|asZ (.bool<|(at' f.Nodes i).Kind == 4) O<|nZ<|cZ h O (λhb8 h=>?_) (λhb8 h=>?_)
  ·refine jnZ h (λy=>aR [(78,.bool y)]) (λy=>stL S rg []) (λx4 h=>?_) (λ_ h=>?_)
   ·refine cZ h O (λhb9 h=>?_) (λhb9 h=>?_)
    ·exact af<|aa<|bW (by rw[fX];trivial) (v:=iZ 3) O<|asZ (.iface 62<|iZ 3) O<|aD<|gv1 hrg<|hQ _ h
    exact kZ<|af<|asZ .niface O<|aD<|gv1 hrg<|hQ _ h
   refine rZ<|aa<|aS ib O<|aa<|ag (aZ 5 O) sz3 ag3 O O (v:=iZ ((at' f.Nodes i).K)) O (aa<|bc O O<|mvZ (.bool<|decide<|(at' f.Nodes i).K<1) O<|gfZ h O O (λhb10 h=>?_) (λhb10 h=>?_))
   ·exact aa<|aS ib O<|gTZ O O hb10<|aa<|ag (aZ 5 O) sz3 ag3 O O (v:=iZ ((at' f.Nodes i).K)) O (gTZ O O hb10<|aa<|aS iO O<|gTZ O O hb10<|aa<|ag (aZ 5 O) fY iy O O (v:=cb ((at' f.Nodes i).Args)) O (gTZ O O hb10<|aa<|aB ca O<|gTZ O O hb10<|aa<|eb O O<|aa<|aE O hb10 (v:=.bool (decide<|(((at' f.Nodes i).Args).length:Int)<(at' f.Nodes i).K)) O (nZ<|⟨(decide<|(((at' f.Nodes i).Args).length:Int)<(at' f.Nodes i).K),(am (fZ<|fn)<|sn),h⟩)))
   exact gFZ O O hb10 O<|gFZ O O hb10 O<|gFZ O O hb10 O<|gFZ O O hb10 O<|gFZ O O hb10 O<|aa<|aM O hb10 (v:=.bool true) O<|nZ<|⟨true,(am (fZ<|fn)<|sn),h⟩
  refine af<|aa<|aS ib O<|aa<|ag (aZ 5 O) sz3 ag3 O O (v:=iZ ((at' f.Nodes i).K)) O (aa<|dD O O<|nZ<|cZ h O (λhb11 h=>?_) (λhb11 h=>?_))
  ·exact af<|aa<|bW (by rw[fX];trivial) (v:=iZ 2) O<|asZ (.iface 62<|iZ 2) O<|aD<|gv1 hrg<|hQ _ h
  exact kZ<|af<|asZ .niface O<|aD<|gv1 hrg<|hQ _ h
 refine rZ<|aa<|aS gG O<|aa<|ag (aZ 5 O) sz3 ag3 O O (v:=iZ ((at' f.Nodes i).Kind)) O (aa<|bc O O<|mvZ (.bool<|decide<|(at' f.Nodes i).Kind<0) O<|gfZ h O O (λhb12 h=>?_) (λhb12 h=>?_))
 ·exact aa<|aS gG O<|gTZ O O hb12<|aa<|ag (aZ 5 O) sz3 ag3 O O (v:=iZ ((at' f.Nodes i).Kind)) O (gTZ O O hb12<|aa<|eb O O<|aa<|aE O hb12 (v:=.bool (decide<|5<(at' f.Nodes i).Kind)) O (nZ<|⟨((decide<|5<(at' f.Nodes i).Kind),(g1,g2)),(am (aP<|fn)<|sc O<|sc O<|sn),h⟩))
 exact gFZ O O hb12 O<|gFZ O O hb12 O<|aa<|aM O hb12 (v:=.bool true) O<|nZ<|⟨(true,(g1,g2)),(am (aP<|fn)<|sc O<|sc O<|sn),h⟩
theorem kM {f:GFormula} {arg:Int} {Q:Bool->Prop} (h:fS f arg Q) (hQ:∀r1,Q r1->R (AV.bool r1) S) :
  Ctr Try.prog 46 [aq f,iZ arg] S R:=by
 refine aL Try.func46 rfl Try.ntmps46 Try.results46 krZ (λrg hrg=>?_)
 refine af<|wZ rg<|cp (v:=aq f) O O (kk:=3) O dZ (λg1=>asZ (.bool false) O<|aT<|aa<|aS c5 O<|aa<|ag (aZ 2 O) sz3 ag3 O O (v:=iZ f.Vars) O<|aa<|eo O O<|mvZ (.bool<|decide<|0<=f.Vars) O<|gtZ h O O (λhb h=>?_) (λhb h=>?_))
 ·refine mvZ (iZ arg) O<|gTZ O O hb<|aa<|eo O O<|aa<|aM O hb (v:=.bool (decide<|0<=arg)) O (mvZ (.bool<|decide<|0<=arg) O<|gtZ h O O (λhb1 h=>?_) (λhb1 h=>?_))
  ·refine mvZ (iZ arg) O<|gTZ O O hb1<|aa<|aS c5 O<|gTZ O O hb1<|aa<|ag (aZ 2 O) sz3 ag3 O O (v:=iZ f.Vars) O<|gTZ O O hb1<|aa<|bc O O<|gTZ O O hb1<|mvZ (.bool<|decide<|arg<f.Vars) O<|gfZ h O O (λhb2 h=>?_) (λhb2 h=>?_)
   ·exact mvZ (iZ arg) O<|gTZ O O hb2<|aa<|aS c5 O<|gTZ O O hb2<|aa<|ag (aZ 2 O) sz3 ag3 O O (v:=iZ f.Vars) O<|gTZ O O hb2<|tkZ h (λhg h=>aa<|bC O O hg<|gTZ O O hb2<|aa<|aS bM O<|gTZ O O hb2<|aa<|ag (aZ 2 O) d3 eG O O (v:=eL br f.Nodes) O<|gTZ O O hb2<|aa<|aB dI O<|gTZ O O hb2<|aa<|bc O O<|gTZ O O hb1<|aa<|aE O hb2 (v:=.bool (decide<|(arg-f.Vars)<(f.Nodes.length:Int))) O (aa<|aM O hb1 (v:=.bool (decide<|(arg-f.Vars)<(f.Nodes.length:Int))) O (asZ (.bool<|decide<|(arg-f.Vars)<(f.Nodes.length:Int)) O (aD<|gv1 hrg<|hQ _ h))))
   exact gFZ O O hb2 O<|gFZ O O hb2 O<|gFZ O O hb2 O<|gFZ O O hb2 O<|gFZ O O hb2 O<|gFZ O O hb2 O<|gFZ O O hb2 O<|gTZ O O hb1<|aa<|aM O hb2 (v:=.bool true) O<|aa<|aM O hb1 (v:=.bool true) O<|asZ (.bool true) O<|aD<|gv1 hrg<|hQ _ h
  exact gFZ O O hb1 O<|gFZ O O hb1 O<|gFZ O O hb1 O<|gFZ O O hb1 O<|gUZ O O<|gUZ O O<|gUZ O O<|gUZ O O<|gUZ O O<|gUZ O O<|gUZ O O<|gUZ O O<|gFZ O O hb1 O<|aa<|aE O hb1 (v:=.bool false) O<|asZ (.bool false) O<|aD<|gv1 hrg<|hQ _ h
 exact gFZ O O hb O<|aa<|aE O hb (v:=.bool false) O<|mvZ (.bool false) O<|gFZ O O O O<|gFZ O O O O<|gFZ O O O O<|gFZ O O O O<|gFZ O O O O<|gUZ O O<|gUZ O O<|gUZ O O<|gUZ O O<|gUZ O O<|gUZ O O<|gUZ O O<|gUZ O O<|gFZ O O O O<|aa<|aE O O (v:=.bool false) O<|asZ (.bool false) O<|aD<|gv1 hrg<|hQ _ h
theorem kN {f:GFormula} {Q:Option Int->Prop} (h:fT f Q) (hQ:∀r1,Q r1->R (aW 62 r1) S) :
  Ctr Try.prog 30 [aq f] S R:=by
 refine aL Try.func30 rfl Try.ntmps30 Try.results30 krZ (λrg hrg=>?_)
 refine af<|wZ rg<|cp (v:=aq f) O O (kk:=3) O dZ (λg1=>asZ .niface O<|nZ<|qZ<|jgZ (γ:=Nat) h (λy=>aR [(1,.ptr rg 1 y.2 0 0),(12,.bool y.1)]) (λy=>stL S rg [(1,.arr 3 [aq f],y.2)]) (λy h=>?_) (λ_ h=>?_))
 ·obtain⟨x,g2⟩:=y
  refine cZ h O (λhb h=>?_) (λhb h=>?_)
  ·exact af<|aa<|bW (by rw[fX];trivial) (v:=iZ 3) O<|asZ (.iface 62<|iZ 3) O<|aD<|gv1 hrg<|hQ _ h
  refine kZ<|qZ<|af<|aa<|aS bM O<|aa<|ag (aZ 1 O) d3 eG O O (v:=eL br f.Nodes) O<|aa<|aB dI O<|aa<|eb O O<|nZ<|cZ h O (λhb1 h=>?_) (λhb1 h=>?_)
  ·exact af<|aa<|bW (by rw[fX];trivial) (v:=iZ 4) O<|asZ (.iface 62<|iZ 4) O<|aD<|gv1 hrg<|hQ _ h
  refine kZ<|qZ<|af<|aa<|aS bM O<|aa<|ag (aZ 1 O) d3 eG O O (v:=eL br f.Nodes) O<|aa<|aB dI O<|mvZ (iZ 0) O<|nZ<|bZ<|lpZ h (λy=>aR [(1,.ptr rg 1 g2 0 0),(21,iZ (f.Nodes.length:Int)),(22,iZ y)]) (λy=>stL S rg [(1,.arr 3 [aq f],g2)]) (am (fZ<|fZ<|fZ<|fn)<|sc O<|sn) (λx1 _ h=>af<|aa<|bc O O<|nZ<|qZ<|cZ h O (λhb2 h=>?_) (λhb2 h=>?_))
  ·refine kZ<|qZ<|bZ<|af<|mvZ (iZ x1) O<|asZ (iZ x1) O<|aT<|aa<|aw (aZ 1 O) fL dZ kT O O (v:=aq f) O<|mvZ (iZ x1) O<|aa<|clZ O<|i6 h λe h=>asZ (aW 62 e) O<|aT<|mvZ (aW 62 e) O<|aa<|gQ i5 (E:=62) O O O<|nZ<|cZ h O (λhb3 h=>?_) (λhb3 h=>?_)
   ·exact af<|mvZ (aW 62 e) O<|asZ (aW 62 e) O<|aD<|gv1 hrg<|hQ _ h
   exact kZ<|rZ<|tkZ h (λhg h=>aa<|aC O O hg<|mvZ (iZ<|x1+1) O<|nZ<|⟨(x1+1),(am (fZ<|fZ<|fZ<|fn)<|sc O<|sn),h⟩)
  refine xsZ<|qZ<|af<|aa<|aw (aZ 1 O) fL dZ kT O O (v:=aq f) O<|aa<|aS nC O<|aa<|ag (aZ 1 O) sz3 ag3 O O (v:=iZ f.Top) O<|aa<|clZ O<|kM h λr h=>aa<|ea O<|nZ<|cZ h O (λhb4 h=>?_) (λhb4 h=>?_)
  ·exact af<|aa<|bW (by rw[fX];trivial) (v:=iZ 10) O<|asZ (.iface 62<|iZ 10) O<|aD<|gv1 hrg<|hQ _ h
  exact kZ<|af<|asZ .niface O<|aD<|gv1 hrg<|hQ _ h
 refine rZ<|aa<|aS c5 O<|aa<|ag (aZ 1 O) sz3 ag3 O O (v:=iZ f.Vars) O<|aa<|bc O O<|mvZ (.bool<|decide<|f.Vars<0) O<|gfZ h O O (λhb5 h=>?_) (λhb5 h=>?_)
 ·exact aa<|aS c5 O<|gTZ O O hb5<|aa<|ag (aZ 1 O) sz3 ag3 O O (v:=iZ f.Vars) O<|gTZ O O hb5<|aa<|eb O O<|aa<|aE O hb5 (v:=.bool (decide<|24<f.Vars)) O (nZ<|⟨((decide<|24<f.Vars),g1),(am (fZ<|fZ<|fn)<|sc O<|sn),h⟩)
 exact gFZ O O hb5 O<|gFZ O O hb5 O<|aa<|aM O hb5 (v:=.bool true) O<|nZ<|⟨(true,g1),(am (fZ<|fZ<|fn)<|sc O<|sn),h⟩
end Go.Proofs.Ytnjgdkfhgmebjaa
namespace Go.Proofs.Ytnjgdkfhgmebjaa
open Go.Gg
set_option maxRecDepth 100000
variable {S:St} {R:AV->St->Prop}
theorem mA {f:GFormula} {Q:Bool->Prop} (h:h9 f Q) (hQ:∀r1,Q r1->R (AV.bool r1) S) :
  Ctr Try.prog 5 [aq f] S R:=by
 refine aL Try.func5 rfl Try.ntmps5 Try.results5 krZ (λrg hrg=>?_)
 refine af<|wZ rg<|cp (v:=aq f) O O (kk:=3) O dZ (λg1=>asZ (.bool false) O<|nZ<|qZ<|af<|aa<|aS bM O<|aa<|ag (aZ 1 O) d3 eG O O (v:=eL br f.Nodes) O<|aa<|aB dI O<|aa<|eb O O<|nZ<|cZ h O (λhb h=>?_) (λhb h=>?_))
 ·exact af<|asZ (.bool false) O<|aD<|gv1 hrg<|hQ _ h
 refine kZ<|qZ<|af<|aa<|aS bM O<|aa<|ag (aZ 1 O) d3 eG O O (v:=eL br f.Nodes) O<|aa<|aB dI O<|mvZ (iZ 0) O<|nZ<|bZ<|lpZ h (λy=>aR [(10,eL br f.Nodes),(11,iZ (f.Nodes.length:Int)),(12,iZ y)]) (λy=>stL S rg []) (am (fZ<|fZ<|fZ<|fn)<|sn) (λx _ h=>af<|aa<|bc O O<|nZ<|qZ<|cZ h O (λhb1 h=>?_) (λhb1 h=>?_))
 ·refine kZ<|qZ<|bZ<|af<|tkZ h (λhg h=>aa<|aQ dI fB dZ (λ_=>O) O O hg<|aa<|bL fB dZ uX O O (v:=br (at' f.Nodes x)) O<|wZ rg<|bf ij nY (kk:=3) O (λg2=>aa<|au (aZ 4 O) fB dZ O (w:=br (at' f.Nodes x)) O O O (v:=br (at' f.Nodes x)) O ba<|aT<|aa<|aS iO O<|aa<|ag (aZ 4 O) fY iy O O (v:=cb ((at' f.Nodes x).Args)) O (aa<|aB ca O<|aa<|eb O O<|nZ<|cZ h O (λhb2 h=>?_) (λhb2 h=>?_))))
  ·exact af<|asZ (.bool false) O<|aD<|gv1 hrg<|hQ _ h
  exact kZ<|rZ<|tkZ h (λhg1 h=>aa<|aC O O hg1<|mvZ (iZ<|x+1) O<|nZ<|⟨(x+1),(am (fZ<|fZ<|fZ<|fn)<|sn),h⟩)
 exact xsZ<|af<|asZ (.bool true) O<|aD<|gv1 hrg<|hQ _ h
theorem my {a:GRat} {Q:Bool->Prop} (h:hZ a Q) (hQ:∀r1,Q r1->R (AV.bool r1) S) :
  Ctr Try.prog 16 [ae a] S R:=by
 refine aL Try.func16 rfl Try.ntmps16 Try.results16 krZ (λrg hrg=>?_)
 refine af<|wZ rg<|cp (v:=ae a) O O (kk:=3) O dZ (λg1=>asZ (.bool false) O<|aT<|aa<|aS ie O<|aa<|ag (aZ 1 O) gW iT O O (v:=ac a.Num) O<|aa<|aB aG O<|aa<|nk O O<|mvZ (.bool<|decide<|(a.Num.length:Int)<=40) O<|gtZ h O O (λhb h=>?_) (λhb h=>?_))
 ·exact aa<|aS iP O<|gTZ O O hb<|aa<|ag (aZ 1 O) gW iT O O (v:=ac a.Den) O<|gTZ O O hb<|aa<|aB aG O<|gTZ O O hb<|aa<|nk O O<|aa<|aM O hb (v:=.bool (decide<|(a.Den.length:Int)<=40)) O (asZ (.bool<|decide<|(a.Den.length:Int)<=40) O<|aD<|gv1 hrg<|hQ _ h)
 exact gFZ O O hb O<|gFZ O O hb O<|gFZ O O hb O<|aa<|aE O hb (v:=.bool false) O<|asZ (.bool false) O<|aD<|gv1 hrg<|hQ _ h
theorem fC {v:Int} {s:List Int} {q0 k0 g0:Nat} (hdk:DK [(q0,k0)]) {Q:Int->Prop} (h:cF v s Q) (hQ:∀r1,Q r1->R (iZ r1) (stX S [(q0,k0,.arr 1 (List.map iZ s),g0)])) :
  Ctr Try.prog 63 [.sl 1 q0 k0 g0 0 s.length,iZ v] (stX S [(q0,k0,.arr 1 (List.map iZ s),g0)]) R:=by
 refine aL Try.func63 rfl Try.ntmps63 Try.results63 krZ (λrg hrg=>?_)
 have hdx:DX [(q0,k0,.arr 1 (List.map iZ s),g0)]:=hdk
 have hfr:=λX' e=>gp (S:=S) (rg:=rg) (X:=[(q0,k0,.arr 1 (List.map iZ s),g0)]) (X':=X') e hrg
 have hne0:=jp hdx hrg 0 rfl
 refine af<|asZ (iZ 0) O<|nZ<|qZ<|af<|mvZ (.sl 1 q0 k0 g0 0 s.length) O<|aa<|dM ca O<|mvZ (iZ 0) O<|nZ<|bZ<|lpZ h (λy=>aR [(0,.sl 1 q0 k0 g0 0 s.length),(1,iZ v),(7,iZ (s.length:Int)),(8,iZ y)]) (λy=>stL (stX S [(q0,k0,.arr 1 (List.map iZ s),g0)]) rg []) (am (aP<|fn)<|sn) (λx _ h=>af<|aa<|bc O O<|nZ<|qZ<|cZ h O (λhb h=>?_) (λhb h=>?_))
 ·refine kZ<|qZ<|bZ<|af<|mvZ (iZ x) O<|asZ (iZ x) O<|aT<|mvZ (iZ v) O<|mvZ (.sl 1 q0 k0 g0 0 s.length) O<|mvZ (iZ x) O<|tkZ h (λhi h=>aa<|bI ca sz3 dZ O O hi<|aa<|db (atX hne0 hdx 0 O) sz3 ag3 O (de hi lzZ) O (v:=iZ (at' s x)) O<|aa<|cu O O<|nZ<|cZ h O (λhb1 h=>?_) (λhb1 h=>?_))
  ·exact af<|mvZ (iZ x) O<|asZ (iZ x) O<|aD<|gv1 (hfr _ O)<|hQ _ h
  exact kZ<|rZ<|tkZ h (λhg h=>aa<|aC O O hg<|mvZ (iZ<|x+1) O<|nZ<|⟨(x+1),(am (aP<|fn)<|sn),h⟩)
 exact xsZ<|af<|asZ (iZ<|-1) O<|aD<|gv1 (hfr _ O)<|hQ _ h
theorem eM {v:Int} {s:List Int} {q0 k0 g0:Nat} (hdk:DK [(q0,k0)]) {Q:Bool->Prop} (h:bG v s Q) (hQ:∀r1,Q r1->R (AV.bool r1) (stX S [(q0,k0,.arr 1 (List.map iZ s),g0)])) :
  Ctr Try.prog 47 [.sl 1 q0 k0 g0 0 s.length,iZ v] (stX S [(q0,k0,.arr 1 (List.map iZ s),g0)]) R:=by
 refine aL Try.func47 rfl Try.ntmps47 Try.results47 krZ (λrg hrg=>?_)
 have hdx:DX [(q0,k0,.arr 1 (List.map iZ s),g0)]:=hdk
 have hfr:=λX' e=>gp (S:=S) (rg:=rg) (X:=[(q0,k0,.arr 1 (List.map iZ s),g0)]) (X':=X') e hrg
 have hne0:=jp hdx hrg 0 rfl
 exact af<|asZ (.bool false) O<|aT<|mvZ (.sl 1 q0 k0 g0 0 s.length) O<|mvZ (iZ v) O<|aa<|clZ O<|tR (sV (atX hne0 hdx 0 O)<|rE)<|fC (wg (v5)<|we) h λr h=>lM (sV (atX hne0 hdx 0 O)<|rE)<|aa<|eo O O<|asZ (.bool<|decide<|0<=r) O<|aD<|gv1 (hfr _ O)<|hQ _ h
theorem cW {s:List Int} {Q:List Int->Prop} (h:bH s Q) (hQ:∀r1,Q r1->R (ac r1) S) :
  Ctr Try.prog 32 [ac s] S R:=by
 refine aL Try.func32 rfl Try.ntmps32 Try.results32 krZ (λrg hrg=>?_)
 refine af<|asZ .nil O<|nZ<|qZ<|af<|mvZ (ac s) O<|Wl.isnil aG O O (λisnil hn=>?_)
 replace h:=h isnil hn
 refine nZ<|cZ h O (λhb h=>?_) (λhb h=>?_)
 ·exact af<|asZ .nil O<|aD<|an (v:=.nil) O<|aI<|aJ hrg (VW.nilL)<|hQ _ h
 exact kZ<|af<|wZ rg<|aY aG ec cC (es:=[]) O (kk:=1) O O O O O O (λg1=>mvZ (ac s) O<|tkZ h (λhg h=>wZ rg<|cL aG eX ec cC (es:=([]:List Int)) (xs:=s) (enc:=AV.int .u32) (aZ 5 O) lzZ (O) (kk:=1) O O (λ_=>O) (λ_=>O) hg O (λ_=>ba) (λg2=>asZ (.sl 1 rg 5 g2 0<|(([]:List Int)++s).length) O<|aD<|an (v:=.sl 1 rg 5 g2 0 ((([]:List Int)++s).length)) O (aI<|bK (k:=5) (xs:=List.map (AV.int .u32) (([]:List Int)++s)) O (v':=ac (([]:List Int)++s)) (a8 O) (goZ hrg<|hQ _ h)))))
end Go.Proofs.Ytnjgdkfhgmebjaa
