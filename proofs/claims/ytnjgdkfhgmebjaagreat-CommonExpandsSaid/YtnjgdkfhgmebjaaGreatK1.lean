/- Walks of functions. Conditions: none. -/
import Derived.Test.YtnjgdkfhgmebjaaGreatWa
import Derived.Test.YtnjgdkfhgmebjaaGreatGgTy
namespace Go.Proofs.YtnjgdkfhgmebjaaGreat
open Go.Gg
set_option maxRecDepth 100000
variable {S:St} {R:AV->St->Prop}
theorem br {a:List Int} {Q:List Int->Prop} (h:bu a Q) (hQ:∀r1,Q r1->R (ae r1) S) :
  Ctr Tryz.prog 240 [ae a] S R:=by
 refine aK Tryz.func240 rfl Tryz.ntmps240 Tryz.results240 krZ (λrg hrg=>?_)
 refine af<|asZ .nil O<|aW<|mvZ (ae a) O<|aa<|aF aR O<|asZ (iZ (a.length:Int)) O<|nZ<|jnZ h (λy=>aQ [(0,ae a),(3,iZ y)]) (λy=>stL S rg []) (λn h=>?_) (λ_ h=>?_)
 ·refine qZ<|af<|mvZ (iZ n) O<|aa<|bJ O O<|nZ<|cZ h O (λhb h=>?_) (λhb h=>?_)
  ·exact af<|asZ .nil O<|aC<|aw (v:=.nil) O<|aG<|aJ hrg (VW.nilL)<|hQ _ h
  exact kZ<|af<|wZ rg<|a8 aR cL bR (es:=[]) O (kk:=1) O O O O O O (λg1=>mvZ (ae a) O<|mvZ (iZ n) O<|tkZ h (λhg h=>aa<|mD aR aX dZ (λ_=>O) O (l:=0) (h:=n) O O hg<|tkZ h (λhg1 h=>wZ rg<|bH aR dU cL bR (es:=([]:List Int)) (xs:=(f8 a 0 n)) (enc:=AV.int .u32) (aZ 20 O) lzZ (O) (kk:=1) O O (λ_=>O) (λ_=>O) hg1 O (λ_=>aT) (λg2=>asZ (.sl 1 rg 20 g2 0<|(([]:List Int)++(f8 a 0 n)).length) O (aC<|aw (v:=.sl 1 rg 20 g2 0 ((([]:List Int)++(f8 a 0 n)).length)) O (aG<|bk (k:=20) (xs:=List.map (AV.int .u32) (([]:List Int)++(f8 a 0 n))) O (v':=ae (([]:List Int)++(f8 a 0 n))) (ba O) (goZ hrg<|hQ _ h)))))))
 refine bZ<|lpZ h (λy=>aQ [(0,ae a),(3,iZ y)]) (λy=>stL S rg []) (an (fZ<|fZ<|fn)<|sn) (λn1 _ h=>qZ<|af<|mvZ (iZ n1) O<|aa<|dr O O<|mvZ (.bool<|decide<|0<n1) O<|gtZ h O O (λhb1 h=>?_) (λhb1 h=>?_))
 ·refine mvZ (ae a) O<|gTZ O O hb1<|mvZ (iZ n1) O<|gTZ O O hb1<|tkZ h (λhg2 h=>aa<|bt O O hg2<|gTZ O O hb1<|tkZ h (λhg3 h=>aa<|aM aR aX dZ (λ_=>O) O O hg3<|gTZ O O hb1<|aa<|aN aX cH O O (v:=.int .u32 (at' a<|n1-1)) O (gTZ O O hb1<|aa<|bJ O O<|aa<|aH O hb1 (v:=.bool ((at' a<|n1-1) == 0)) O (nZ<|cZ h O (λhb2 h=>?_) (λhb2 h=>?_)))))
  ·exact kZ<|bZ<|rZ<|mvZ (iZ n1) O<|tkZ h (λhg4 h=>aa<|bt O O hg4<|asZ (iZ<|n1-1) O<|nZ<|⟨(n1-1),(an (fZ<|fZ<|fn)<|sn),h⟩)
  exact xsZ<|⟨n1,(an (fZ<|fZ<|fn)<|sn),h⟩
 exact gFZ O O hb1 O<|gFZ O O hb1 O<|gFZ O O hb1 O<|gFZ O O hb1 O<|gFZ O O hb1 O<|aa<|aI O hb1 (v:=.bool false) O<|nZ<|cFZ O O<|xsZ<|⟨n1,(an (fZ<|fZ<|fn)<|sn),h⟩
theorem eg {a:List Int} {b:List Int} {Q:Int->Prop} (h:cO a b Q) (hQ:∀r1,Q r1->R (iZ r1) S) :
  Ctr Tryz.prog 167 [ae a,ae b] S R:=by
 refine aK Tryz.func167 rfl Tryz.ntmps167 Tryz.results167 krZ (λrg hrg=>?_)
 refine af<|asZ (iZ 0) O<|aW<|mvZ (ae a) O<|aa<|clZ O<|br h λa1 h=>mvZ (ae b) O<|aa<|clZ O<|br h λb1 h=>asZ (ae a1) O<|asZ (ae b1) O<|nZ<|qZ<|af<|mvZ (ae a1) O<|aa<|aF aR O<|mvZ (ae b1) O<|aa<|aF aR O<|aa<|cG O O<|nZ<|cZ h O (λhb h=>?_) (λhb h=>?_)
 ·refine qZ<|af<|mvZ (ae a1) O<|aa<|aF aR O<|mvZ (ae b1) O<|aa<|aF aR O<|aa<|a9 O O<|nZ<|cZ h O (λhb1 h=>?_) (λhb1 h=>?_)
  ·exact af<|asZ (iZ<|-1) O<|aC<|gv1 hrg<|hQ _ h
  exact kZ<|af<|asZ (iZ 1) O<|aC<|gv1 hrg<|hQ _ h
 refine kZ<|qZ<|af<|mvZ (ae a1) O<|aa<|aF aR O<|tkZ h (λhg h=>aa<|bt O O hg<|asZ (iZ<|(a1.length:Int)-1) O<|nZ<|bZ<|lpZ h (λy=>aQ [(0,ae a1),(1,ae b1),(5,iZ y)]) (λy=>stL S rg []) (an (fZ<|fZ<|fZ<|fn)<|sn) (λi _ h=>qZ<|af<|mvZ (iZ i) O<|aa<|ey O O<|nZ<|cZ h O (λhb2 h=>?_) (λhb2 h=>?_)))
 ·refine kZ<|qZ<|bZ<|qZ<|qZ<|tkZ h (λhg1 h=>tkZ h (λhg2 h=>Vc.drawn' bx rg (λ_=>fi) krZ<|dP O O<|au (v:=ae a1) O<|dP O O<|au (v:=iZ i) O<|dP O O<|aM aR aX dZ (λ_=>O) O O hg1<|dP O O<|aN aX cH O O (v:=.int .u32 (at' a1 i)) O<|dP O O<|au (v:=ae b1) O<|dP O O<|au (v:=iZ i) O<|dP O O<|aM aR aX dZ (λ_=>O) O O hg2<|dP O O<|aN aX cH O O (v:=.int .u32 (at' b1 i)) O<|dP O O<|a9 O O<|dN<|cZ h O (λhb3 h=>?_) (λhb3 h=>?_)))
  ·exact af<|asZ (iZ<|-1) O<|aC<|gv1 hrg<|hQ _ h
  refine kZ<|qZ<|tkZ h (λhg3 h=>tkZ h (λhg4 h=>Vc.drawn' bx rg (λ_=>fi) krZ<|dP O O<|au (v:=ae a1) O<|dP O O<|au (v:=iZ i) O<|dP O O<|aM aR aX dZ (λ_=>O) O O hg3<|dP O O<|aN aX cH O O (v:=.int .u32 (at' a1 i)) O<|dP O O<|au (v:=ae b1) O<|dP O O<|au (v:=iZ i) O<|dP O O<|aM aR aX dZ (λ_=>O) O O hg4<|dP O O<|aN aX cH O O (v:=.int .u32 (at' b1 i)) O<|dP O O<|dr O O<|dN<|cZ h O (λhb4 h=>?_) (λhb4 h=>?_)))
  ·exact af<|asZ (iZ 1) O<|aC<|gv1 hrg<|hQ _ h
  exact kZ<|rZ<|mvZ (iZ i) O<|tkZ h (λhg5 h=>aa<|bt O O hg5<|asZ (iZ<|i-1) O<|nZ<|⟨(i-1),(an (fZ<|fZ<|fZ<|fn)<|sn),h⟩)
 exact xsZ<|af<|asZ (iZ 0) O<|aC<|gv1 hrg<|hQ _ h
theorem kF {n:Int} {Q:List Int->Prop} (h:ip n Q) (hQ:∀r1,Q r1->R (ae r1) S) :
  Ctr Tryz.prog 261 [iZ n] S R:=by
 refine aK Tryz.func261 rfl Tryz.ntmps261 Tryz.results261 krZ (λrg hrg=>?_)
 refine af<|asZ .nil O<|nZ<|qZ<|af<|mvZ (iZ n) O<|aa<|lE O O<|nZ<|cZ h O (λhb h=>?_) (λhb h=>?_)
 ·exact af<|asZ .nil O<|aC<|aw (v:=.nil) O<|aG<|aJ hrg (VW.nilL)<|hQ _ h
 exact kZ<|af<|mvZ (iZ n) O<|aa<|bo td3 bN O<|mvZ (iZ n) O<|aa<|e_ O O dZ<|aa<|bo td3 bN O<|wZ rg<|a8 aR cL bR (es:=[.int .u32 (IntKind.wrap .u32 n),.int .u32 (IntKind.wrap .u32<|n / 2^(Int.toNat 32))]) O (kk:=1) O O O O O O (λg1=>ff (bh (k:=10) (xs:=List.map (AV.int .u32) [(IntKind.wrap .u32 n),(IntKind.wrap .u32<|n / 2^(Int.toNat 32))]) O (es:=[(10,ae [(IntKind.wrap .u32 n),(IntKind.wrap .u32<|n / 2^(Int.toNat 32))])]) (fc (ba O)<|fn) (m:=[]) (sn)) (aa<|clZ O<|br h λr h=>asZ (ae r) O<|aC<|gv1 hrg<|hQ _ h))
theorem mG {a:List Int} {b:Int} {Q:List Int->Int->Prop} (h:fw a b Q) (hQ:∀r1 r2,Q r1 r2->R (.tuple [ae r1,AV.int .u32 r2]) S) :
  Ctr Tryz.prog 307 [ae a,AV.int .u32 b] S R:=by
 refine aK Tryz.func307 rfl Tryz.ntmps307 Tryz.results307 krZ (λrg hrg=>?_)
 refine af<|asZ .nil O<|asZ (.int .u32 0) O<|aW<|mvZ (ae a) O<|aa<|aF aR O<|tkZ h (λhg h=>wZ rg<|g_ aR dU cL (enc:=AV.int .u32) (z':=0) bR (kk:=1) O O O hg (λg1=>asZ (.sl 1 rg 11 g1 0<|Int.toNat (a.length:Int)) O<|aW<|asZ (.int .u64 0) O<|nZ<|qZ<|af<|mvZ (ae a) O<|aa<|aF aR O<|tkZ h (λhg1 h=>aa<|bt O O hg1<|asZ (iZ<|(a.length:Int)-1) O<|nZ<|bZ<|lpZ h (λy=>aQ [(0,ae a),(1,.int .u32 b),(6,.sl 1 rg 11 g1 0 y.2.2.length),(7,.int .u64 y.1),(8,iZ y.2.1)]) (λy=>stL S rg [(11,.arr 1 (List.map (AV.int .u32) y.2.2),g1)]) (an (fZ<|fZ<|fc (VW.slen lzZ)<|fZ<|fZ<|fn)<|sc O<|sn) (λy _ h=>?_))))
 obtain⟨rest,i,out⟩:=y
 refine qZ<|af<|mvZ (iZ i) O<|aa<|ey O O<|nZ<|cZ h O (λhb h=>?_) (λhb h=>?_)
 ·exact kZ<|qZ<|bZ<|af<|mvZ (.int .u64 rest) O<|aa<|kC O O dZ<|mvZ (ae a) O<|mvZ (iZ i) O<|tkZ h (λhg2 h=>aa<|aM aR aX dZ (λ_=>O) O O hg2<|aa<|aN aX cH O O (v:=.int .u32 (at' a i)) O<|aa<|bo bN bU O<|aa<|rb O O<|stZ h (λrest1 hs h=>wZ rg<|aE (v:=.int .u64 rest1) (by subst hs;rfl)<|aW<|mvZ (.sl 1 rg 11 g1 0 out.length) O<|mvZ (iZ i) O<|mvZ (.int .u64 rest1) O<|mvZ (.int .u32 b) O<|aa<|bo bN bU O<|tkZ h (λhg3 h=>aa<|t8 O O hg3<|aa<|bo bU bN O<|tkZ h (λhi h=>aa<|bA aR aX dZ O O hi<|aa<|b7 (aZ 11 O) aX dZ (x':=(IntKind.wrap .u32<|IntKind.wrap .u64<|Int.tdiv rest1<|IntKind.wrap .u64 b)) (λ_=>O) O O (cT hi lzZ) O O aT<|nZ<|rZ<|mvZ (.int .u64 rest1) O<|mvZ (.int .u32 b) O<|aa<|bo bN bU O<|tkZ h (λhg4 h=>aa<|xK O O hg4<|asZ (.int .u64<|Int.tmod rest1<|IntKind.wrap .u64 b) O<|nZ<|rZ<|mvZ (iZ i) O<|tkZ h (λhg5 h=>aa<|bt O O hg5<|asZ (iZ<|i-1) O<|nZ<|⟨((Int.tmod rest1<|IntKind.wrap .u64 b),(i-1),(cg out i<|IntKind.wrap .u32<|IntKind.wrap .u64<|Int.tdiv rest1<|IntKind.wrap .u64 b)),(an (fZ<|fZ<|fc (VW.slen lzZ)<|fZ<|fZ<|fn)<|sc O<|sn),h⟩))))))
 exact xsZ<|af<|mvZ (.sl 1 rg 11 g1 0 out.length) O<|ff (bh (k:=11) (xs:=List.map (AV.int .u32) out) O (es:=[(7,.int .u64 rest),(39,ae out)]) (fZ<|fc (ba O)<|fn) (m:=[]) (sn)) (aa<|clZ O<|br h λr h=>mvZ (.int .u64 rest) O<|aa<|bo bU bN O<|asZ (ae r) O<|asZ (.int .u32<|IntKind.wrap .u32 rest) O<|aC<|aw (v:=ae r) O<|aw (v:=.int .u32 (IntKind.wrap .u32 rest)) O<|aG<|aJ hrg (VW.tupL<|vZ<|vZ<|vn)<|hQ _ _ h)
theorem ie {x:Int} {Q:Int->Prop} (h:eA x Q) (hQ:∀r1,Q r1->R (iZ r1) S) :
  Ctr Tryz.prog 282 [AV.int .u32 x] S R:=by
 refine aK Tryz.func282 rfl Tryz.ntmps282 Tryz.results282 krZ (λrg hrg=>?_)
 refine af<|asZ (iZ 0) O<|nZ<|jnZ h (λy=>aQ [(0,.int .u32 y.1),(2,iZ y.2)]) (λy=>stL S rg []) (λy h=>?_) (λ_ h=>?_)
 ·obtain⟨x1,n⟩:=y
  refine jnZ h (λy=>aQ [(0,.int .u32 y.1),(2,iZ y.2)]) (λy=>stL S rg []) (λy h=>?_) (λ_ h=>?_)
  ·obtain⟨x2,n1⟩:=y
   exact af<|mvZ (iZ n1) O<|mvZ (.int .u32 x2) O<|aa<|bo bN td5 O<|tkZ h (λhg h=>wZ rg<|v8 td9 krZ O hg<|aa<|bo td5 td3 O<|tkZ h (λhg1 h=>aa<|aD O O hg1<|stZ h (λn2 hs h=>wZ rg<|aE (v:=iZ n2) (by subst hs;rfl)<|aC<|gv1 hrg<|hQ _ h)))
  refine af<|mvZ (.int .u32 x1) O<|aa<|ey O O<|nZ<|cZ h O (λhb h=>?_) (λhb h=>?_)
  ·exact af<|mvZ (.int .u32 x1) O<|aa<|e_ O O dZ<|asZ (.int .u32<|x1 / 2^(Int.toNat 8)) O<|nZ<|rZ<|mvZ (iZ n) O<|tkZ h (λhg2 h=>aa<|aD O O hg2<|asZ (iZ<|n+8) O<|nZ<|⟨((x1 / 2^(Int.toNat 8)),(n+8)),(an (fZ<|fZ<|fn)<|sn),h⟩)
  exact kZ<|⟨(x1,n),(an (fZ<|fZ<|fn)<|sn),h⟩
 refine af<|mvZ (.int .u32 x) O<|aa<|ey O O<|nZ<|cZ h O (λhb1 h=>?_) (λhb1 h=>?_)
 ·exact af<|mvZ (.int .u32 x) O<|aa<|e_ O O dZ<|asZ (.int .u32<|x / 2^(Int.toNat 16)) O<|nZ<|rZ<|asZ (iZ 16) O<|nZ<|⟨((x / 2^(Int.toNat 16)),16),(an (fZ<|fZ<|fn)<|sn),h⟩
 exact kZ<|⟨(x,0),(an (fZ<|fZ<|fn)<|sn),h⟩
theorem hO {x:Int} {Q:Int->Prop} (h:dj x Q) (hQ:∀r1,Q r1->R (iZ r1) S) :
  Ctr Tryz.prog 308 [AV.int .u32 x] S R:=by
 refine aK Tryz.func308 rfl Tryz.ntmps308 Tryz.results308 krZ (λrg hrg=>?_)
 exact af<|asZ (iZ 0) O<|aW<|mvZ (.int .u32 x) O<|aa<|clZ O<|ie h λr h=>tkZ h (λhg h=>aa<|bt O O hg<|asZ (iZ<|32-r) O<|aC<|gv1 hrg<|hQ _ h)
theorem nt {a:List Int} {n:Int} {Q:List Int->Prop} (h:di a n Q) (hQ:∀r1,Q r1->R (ae r1) S) :
  Ctr Tryz.prog 309 [ae a,iZ n] S R:=by
 refine aK Tryz.func309 rfl Tryz.ntmps309 Tryz.results309 krZ (λrg hrg=>?_)
 refine af<|asZ .nil O<|aW<|mvZ (ae a) O<|aa<|aF aR O<|tkZ h (λhg h=>aa<|aD O O hg<|tkZ h (λhg1 h=>wZ rg<|g_ aR dU cL (enc:=AV.int .u32) (z':=0) bR (kk:=1) O O O hg1 (λg1=>asZ (.sl 1 rg 12 g1 0<|Int.toNat<|(a.length:Int)+1) O<|nZ<|qZ<|af<|mvZ (ae a) O<|aa<|aF aR O<|mvZ (iZ 0) O<|nZ<|bZ<|lpZ h (λy=>aQ [(1,iZ n),(5,.sl 1 rg 12 g1 0 y.2.length),(13,ae a),(14,iZ (a.length:Int)),(15,iZ y.1)]) (λy=>stL S rg [(12,.arr 1 (List.map (AV.int .u32) y.2),g1)]) (an (fZ<|fc (VW.slen lzZ)<|fZ<|fZ<|fZ<|fn)<|sc O<|sn) (λy _ h=>?_))))
 obtain⟨x,out⟩:=y
 refine af<|aa<|a9 O O<|nZ<|qZ<|cZ h O (λhb h=>?_) (λhb h=>?_)
 ·refine kZ<|qZ<|bZ<|af<|mvZ (iZ x) O<|tkZ h (λhg2 h=>aa<|aM aR aX dZ (λ_=>O) O O hg2<|aa<|aN aX cH O O (v:=.int .u32 (at' a x)) O<|asZ (iZ x) O<|asZ (.int .u32<|at' a x) O<|aW<|mvZ (.int .u32<|at' a x) O<|aa<|bo bN bU O<|mvZ (iZ n) O<|tkZ h (λhg3 h=>aa<|kC O O hg3<|stZ h (λy1 hs h=>wZ rg<|aE (v:=.int .u64 y1) (by subst hs;rfl)<|aW<|mvZ (.sl 1 rg 12 g1 0 out.length) O<|mvZ (iZ x) O<|tkZ h (λhi h=>aa<|bA aR aX dZ O O hi<|aa<|cI (aZ 12 O) aX cH O (cT hi lzZ) O (v:=.int .u32 (at' out x)) O<|mvZ (.int .u64 y1) O<|aa<|bo bU bN O<|aa<|rb O O<|tkZ h (λhi1 h=>aa<|bA aR aX dZ O O hi1<|aa<|b7 (aZ 12 O) aX dZ (x':=(bits .or .u32 (at' out x)<|IntKind.wrap .u32 y1)) (λ_=>O) O O (cT hi1 lzZ) O O aT<|nZ<|rZ<|mvZ (.sl 1 rg 12 g1 0 out.length) O<|mvZ (iZ x) O<|tkZ h (λhg4 h=>aa<|aD O O hg4<|mvZ (.int .u64 y1) O<|aa<|e_ O O dZ<|aa<|bo bU bN O<|tkZ h (λhi2 h=>aa<|bA aR aX dZ O O hi2<|aa<|b7 (aZ 12 O) aX dZ (x':=(IntKind.wrap .u32<|y1 / 2^(Int.toNat 32))) (λ_=>O) O O (cT hi2 lzZ) O O aT<|nZ<|rZ<|tkZ h (λhg5 h=>aa<|aD O O hg5<|mvZ (iZ<|x+1) O<|nZ ?_))))))))
  exact⟨((x+1),(cg (cg out x<|bits .or .u32 (at' out x)<|IntKind.wrap .u32 y1) (x+1)<|IntKind.wrap .u32<|y1 / 2^(Int.toNat 32))),(an (fZ<|fc (VW.slen lzZ)<|fZ<|fZ<|fZ<|fn)<|sc O<|sn),h⟩
 exact xsZ<|af<|mvZ (.sl 1 rg 12 g1 0 out.length) O<|asZ (.sl 1 rg 12 g1 0 out.length) O<|aC<|aw (v:=.sl 1 rg 12 g1 0 out.length) O<|aG<|bk (k:=12) (xs:=List.map (AV.int .u32) out) O (v':=ae out) (ba O)<|goZ hrg<|hQ _ h
theorem mI {a:List Int} {n:Int} (q k:Nat) {Q:List Int->Prop} {S:St} {R:AV->St->Prop} (h:di a n Q) (hQ:∀r1 g,Q r1->R (.sl 1 q k g 0 r1.length) (S.set q k (.arr 1 (List.map (AV.int .u32) r1)) g)) :
  Ctr Tryz.prog 309 [ae a,iZ n] S R:=by
 unfold di at h
 refine aK Tryz.func309 rfl Tryz.ntmps309 Tryz.results309 krZ (λrg hrg=>?_)
 refine af<|asZ .nil O<|aW<|mvZ (ae a) O<|aa<|aF aR O<|tkZ h (λhg h=>aa<|aD O O hg<|tkZ h (λhg1 h=>wZ rg<|g_ aR dU cL (enc:=AV.int .u32) (z':=0) bR (kk:=1) O O O hg1 (λg1=>asZ (.sl 1 rg 12 g1 0<|Int.toNat<|(a.length:Int)+1) O<|nZ<|qZ<|af<|mvZ (ae a) O<|aa<|aF aR O<|mvZ (iZ 0) O<|nZ<|bZ<|lpZ h (λy=>aQ [(1,iZ n),(5,.sl 1 rg 12 g1 0 y.2.length),(13,ae a),(14,iZ (a.length:Int)),(15,iZ y.1)]) (λy=>stL S rg [(12,.arr 1 (List.map (AV.int .u32) y.2),g1)]) (an (fZ<|fc (VW.slen lzZ)<|fZ<|fZ<|fZ<|fn)<|sc O<|sn) (λy _ h=>?_))))
 obtain⟨x,out⟩:=y
 refine af<|aa<|a9 O O<|nZ<|qZ<|cZ h O (λhb h=>?_) (λhb h=>?_)
 ·refine kZ<|qZ<|bZ<|af<|mvZ (iZ x) O<|tkZ h (λhg2 h=>aa<|aM aR aX dZ (λ_=>O) O O hg2<|aa<|aN aX cH O O (v:=.int .u32 (at' a x)) O<|asZ (iZ x) O<|asZ (.int .u32<|at' a x) O<|aW<|mvZ (.int .u32<|at' a x) O<|aa<|bo bN bU O<|mvZ (iZ n) O<|tkZ h (λhg3 h=>aa<|kC O O hg3<|stZ h (λy1 hs h=>wZ rg<|aE (v:=.int .u64 y1) (by subst hs;rfl)<|aW<|mvZ (.sl 1 rg 12 g1 0 out.length) O<|mvZ (iZ x) O<|tkZ h (λhi h=>aa<|bA aR aX dZ O O hi<|aa<|cI (aZ 12 O) aX cH O (cT hi lzZ) O (v:=.int .u32 (at' out x)) O<|mvZ (.int .u64 y1) O<|aa<|bo bU bN O<|aa<|rb O O<|tkZ h (λhi1 h=>aa<|bA aR aX dZ O O hi1<|aa<|b7 (aZ 12 O) aX dZ (x':=(bits .or .u32 (at' out x)<|IntKind.wrap .u32 y1)) (λ_=>O) O O (cT hi1 lzZ) O O aT<|nZ<|rZ<|mvZ (.sl 1 rg 12 g1 0 out.length) O<|mvZ (iZ x) O<|tkZ h (λhg4 h=>aa<|aD O O hg4<|mvZ (.int .u64 y1) O<|aa<|e_ O O dZ<|aa<|bo bU bN O<|tkZ h (λhi2 h=>aa<|bA aR aX dZ O O hi2<|aa<|b7 (aZ 12 O) aX dZ (x':=(IntKind.wrap .u32<|y1 / 2^(Int.toNat 32))) (λ_=>O) O O (cT hi2 lzZ) O O aT<|nZ<|rZ<|tkZ h (λhg5 h=>aa<|aD O O hg5<|mvZ (iZ<|x+1) O<|nZ ?_))))))))
  exact⟨((x+1),(cg (cg out x<|bits .or .u32 (at' out x)<|IntKind.wrap .u32 y1) (x+1)<|IntKind.wrap .u32<|y1 / 2^(Int.toNat 32))),(an (fZ<|fc (VW.slen lzZ)<|fZ<|fZ<|fZ<|fn)<|sc O<|sn),h⟩
 refine xsZ<|af<|mvZ (.sl 1 rg 12 g1 0 out.length) O<|asZ (.sl 1 rg 12 g1 0 out.length) O<|aC<|aw (v:=.sl 1 rg 12 g1 0 out.length) O<|aG ?_
 show dA _ (.sl 1 rg 12 g1 0 out.length) _
 exact uT q k hrg O (λg'=>hQ _ g' h)
theorem cq {a:List Int} {i:Int} {Q:Int->Prop} (h:cc a i Q) (hQ:∀r1,Q r1->R (AV.int .u64 r1) S) :
  Ctr Tryz.prog 244 [ae a,iZ i] S R:=by
 refine aK Tryz.func244 rfl Tryz.ntmps244 Tryz.results244 krZ (λrg hrg=>?_)
 refine af<|asZ (.int .u64 0) O<|nZ<|qZ<|af<|mvZ (iZ i) O<|mvZ (ae a) O<|aa<|aF aR O<|aa<|a9 O O<|nZ<|cZ h O (λhb h=>?_) (λhb h=>?_)
 ·exact af<|mvZ (ae a) O<|mvZ (iZ i) O<|tkZ h (λhg h=>aa<|aM aR aX dZ (λ_=>O) O O hg<|aa<|aN aX cH O O (v:=.int .u32 (at' a i)) O<|aa<|bo bN bU O<|asZ (.int .u64<|IntKind.wrap .u64<|at' a i) O<|aC<|gv1 hrg<|hQ _ h)
 exact kZ<|af<|asZ (.int .u64 0) O<|aC<|gv1 hrg<|hQ _ h
theorem nq {u:List Int} {uo:Nat} {ul:Nat} {v:List Int} {n:Int} {q0 k0 g0:Nat} {Q:List Int->Bool->Prop} (h:iP u uo ul v n Q) (hQ:∀r1 r2,Q r1 r2->R (AV.bool r2) (stX S [(q0,k0,.arr 1 (List.map (AV.int .u32) r1),g0)])) :
  Ctr Tryz.prog 310 [.sl 1 q0 k0 g0 uo ul,ae v,AV.int .u64 n] (stX S [(q0,k0,.arr 1 (List.map (AV.int .u32) u),g0)]) R:=by
 refine aK Tryz.func310 rfl Tryz.ntmps310 Tryz.results310 krZ (λrg hrg=>?_)
 have hdx:DX [(q0,k0,.arr 1 (List.map (AV.int .u32) u),g0)]:=dx1
 have hfr:=λX' e=>gt (S:=S) (rg:=rg) (X:=[(q0,k0,.arr 1 (List.map (AV.int .u32) u),g0)]) (X':=X') e hrg
 have hne0:=jG hdx hrg 0 rfl
 refine af<|asZ (.bool false) O<|aW<|asZ (.int .u64 0) O<|asZ (.int .u64 0) O<|nZ<|qZ<|af<|mvZ (.sl 1 q0 k0 g0 uo ul) O<|aa<|c7 aR O<|mvZ (iZ 0) O<|nZ<|bZ<|lpZ h (λy=>aQ [(0,.sl 1 q0 k0 g0 uo ul),(1,ae v),(2,.int .u64 n),(7,.int .u64 y.1),(8,.int .u64 y.2.1),(12,iZ (ul:Int)),(13,iZ y.2.2.1)]) (λy=>stL (stX S [(q0,k0,.arr 1 (List.map (AV.int .u32) y.2.2.2),g0)]) rg []) (an (aA<|fZ<|fZ<|fZ<|fn)<|sn) (λy _ h=>?_)
 obtain⟨carry,borrow,x,u1⟩:=y
 refine af<|aa<|a9 O O<|nZ<|qZ<|cZ h O (λhb h=>?_) (λhb h=>?_)
 ·refine kZ<|qZ<|bZ<|af<|mvZ (iZ x) O<|asZ (iZ x) O<|aW<|mvZ (.int .u64 carry) O<|mvZ (.int .u64 n) O<|mvZ (ae v) O<|mvZ (iZ x) O<|aa<|clZ O<|cq h λr h=>aa<|sv O O<|aa<|jD O O<|stZ h (λcarry1 hs h=>wZ rg<|aE (v:=.int .u64 carry1) (by subst hs;rfl)<|aW<|mvZ (.sl 1 q0 k0 g0 uo ul) O<|mvZ (iZ x) O<|tkZ h (λhi h=>aa<|oD aR aX dZ O O hi<|tkZ h (λhg h=>aa<|cI (atX hne0 hdx 0 O) aX cH O (hg) O (v:=.int .u32 (at' u1<|(uo:Int)+x)) O (aa<|bo bN bU O<|mvZ (.int .u64 carry1) O<|aa<|bo bU bN O<|aa<|bo bN bU O<|aa<|lD O O<|mvZ (.int .u64 borrow) O<|aa<|lD O O<|stZ h (λd hs1 h=>wZ rg<|aE (v:=.int .u64 d) (by subst hs1;rfl)<|aW<|mvZ (.sl 1 q0 k0 g0 uo ul) O<|mvZ (iZ x) O<|mvZ (.int .u64 d) O<|aa<|bo bU bN O<|tkZ h (λhi1 h=>aa<|oD aR aX dZ O O hi1<|tkZ h (λhg1 h=>aa<|b7 (atX hne0 hdx 0 O) aX dZ (x':=(IntKind.wrap .u32 d)) (λ_=>O) O O (hg1) O O (ye hne0 hdx 0 O O)<|aW<|mvZ (.int .u64 d) O<|aa<|e_ O O dZ<|asZ (.int .u64<|d / 2^(Int.toNat 63)) O<|nZ<|rZ<|mvZ (.int .u64 carry1) O<|aa<|e_ O O dZ<|asZ (.int .u64<|carry1 / 2^(Int.toNat 32)) O<|nZ<|rZ<|tkZ h (λhg2 h=>aa<|aD O O hg2<|mvZ (iZ<|x+1) O<|nZ ?_))))))))
  exact⟨((carry1 / 2^(Int.toNat 32)),(d / 2^(Int.toNat 63)),(x+1),(cg u1 ((uo:Int)+x)<|IntKind.wrap .u32 d)),(an (aA<|fZ<|fZ<|fZ<|fn)<|sn),h⟩
 exact xsZ<|af<|mvZ (.int .u64 borrow) O<|aa<|bJ O O<|asZ (.bool<|borrow == 1) O<|aC<|gv1 (hfr _ O)<|hQ _ _ h
theorem nu {u:List Int} {uo:Nat} {ul:Nat} {v:List Int} {q0 k0 g0:Nat} {Q:List Int->Prop} (h:iQ u uo ul v Q) (hQ:∀r1,Q r1->R (.tuple []) (stX S [(q0,k0,.arr 1 (List.map (AV.int .u32) r1),g0)])) :
  Ctr Tryz.prog 311 [.sl 1 q0 k0 g0 uo ul,ae v] (stX S [(q0,k0,.arr 1 (List.map (AV.int .u32) u),g0)]) R:=by
 refine aK Tryz.func311 rfl Tryz.ntmps311 Tryz.results311 krZ (λrg hrg=>?_)
 have hdx:DX [(q0,k0,.arr 1 (List.map (AV.int .u32) u),g0)]:=dx1
 have hfr:=λX' e=>gt (S:=S) (rg:=rg) (X:=[(q0,k0,.arr 1 (List.map (AV.int .u32) u),g0)]) (X':=X') e hrg
 have hne0:=jG hdx hrg 0 rfl
 refine af<|asZ (.int .u64 0) O<|aW<|mvZ (.sl 1 q0 k0 g0 uo ul) O<|aa<|c7 aR O<|mvZ (iZ 0) O<|nZ<|bZ<|lpZ h (λy=>aQ [(0,.sl 1 q0 k0 g0 uo ul),(1,ae v),(4,.int .u64 y.1),(7,iZ (ul:Int)),(8,iZ y.2.1)]) (λy=>stL (stX S [(q0,k0,.arr 1 (List.map (AV.int .u32) y.2.2),g0)]) rg []) (an (aA<|fZ<|fn)<|sn) (λy _ h=>?_)
 obtain⟨carry,x,u1⟩:=y
 refine af<|aa<|a9 O O<|nZ<|qZ<|cZ h O (λhb h=>?_) (λhb h=>?_)
 ·refine kZ<|qZ<|bZ<|af<|mvZ (iZ x) O<|asZ (iZ x) O<|nZ<|qZ<|tkZ h (λhi h=>tkZ h (λhg h=>?_))
  obtain⟨r,hc,h⟩:=h
  refine Vc.drawn' bx rg (fp [(8,pc (.int .u64 r))]) krZ<|dP O O<|au (v:=.int .u64 carry) O<|dP O O<|au (v:=.sl 1 q0 k0 g0 uo ul) O<|dP O O<|au (v:=iZ x) O<|dP O O<|oD aR aX dZ O O hi<|dL (E:=([(q0,k0)],[])) O O (by simp) (cfn) (cI (atX hne0 hdx 0 O) aX cH O (hg) O (v:=.int .u32 (at' u1<|(uo:Int)+x)) O (dP O O<|bo bN bU O<|dP O O<|au (v:=ae v) O<|dP O O<|au (v:=iZ x) O<|dC (vs:=[ae v,iZ x]) O (vZ<|vZ<|vn) (λ_=>cq hc (λ_ hr=>⟨by rw[hr],rfl⟩)) O<|dP O O<|jD O O<|dP O O<|jD O O<|dP O O<|aE (v:=.int .u64 (IntKind.wrap .u64<|carry+(IntKind.wrap .u64<|(IntKind.wrap .u64<|at' u1<|(uo:Int)+x)+r))) O (dN<|af<|mvZ (.sl 1 q0 k0 g0 uo ul) O<|mvZ (iZ x) O<|mvZ (.int .u64<|IntKind.wrap .u64<|carry+(IntKind.wrap .u64<|(IntKind.wrap .u64<|at' u1<|(uo:Int)+x)+r)) O (aa<|bo bU bN O<|tkZ h (λhi1 h=>aa<|oD aR aX dZ O O hi1<|tkZ h (λhg1 h=>aa<|b7 (atX hne0 hdx 0 O) aX dZ (x':=(IntKind.wrap .u32<|IntKind.wrap .u64<|carry+(IntKind.wrap .u64<|(IntKind.wrap .u64<|at' u1<|(uo:Int)+x)+r))) (λ_=>O) O O (hg1) O O (ye hne0 hdx 0 O O)<|nZ<|rZ<|mvZ (.int .u64<|IntKind.wrap .u64<|carry+(IntKind.wrap .u64<|(IntKind.wrap .u64<|at' u1<|(uo:Int)+x)+r)) O (aa<|e_ O O dZ<|stZ h (λcarry1 hs h=>?_))))))))
  exact wZ rg<|aE (v:=.int .u64 carry1) (by subst hs;rfl)<|nZ<|rZ<|tkZ h (λhg2 h=>aa<|aD O O hg2<|mvZ (iZ<|x+1) O<|nZ<|⟨(carry1,(x+1),(cg u1 ((uo:Int)+x)<|IntKind.wrap .u32<|IntKind.wrap .u64<|carry+(IntKind.wrap .u64<|(IntKind.wrap .u64<|at' u1<|(uo:Int)+x)+r))),(an (aA<|fZ<|fn)<|sn),h⟩)
 exact xsZ<|gv0 (hfr _ O)<|hQ _ h
theorem mH {a:List Int} {n:Int} {Q:List Int->Prop} (h:fx a n Q) (hQ:∀r1,Q r1->R (ae r1) S) :
  Ctr Tryz.prog 312 [ae a,iZ n] S R:=by
 refine aK Tryz.func312 rfl Tryz.ntmps312 Tryz.results312 krZ (λrg hrg=>?_)
 refine af<|asZ .nil O<|aW<|mvZ (ae a) O<|aa<|aF aR O<|tkZ h (λhg h=>wZ rg<|g_ aR dU cL (enc:=AV.int .u32) (z':=0) bR (kk:=1) O O O hg (λg1=>asZ (.sl 1 rg 9 g1 0<|Int.toNat (a.length:Int)) O<|nZ<|qZ<|af<|mvZ (ae a) O<|aa<|aF aR O<|mvZ (iZ 0) O<|nZ<|bZ<|lpZ h (λy=>aQ [(0,ae a),(1,iZ n),(5,.sl 1 rg 9 g1 0 y.2.length),(11,iZ (a.length:Int)),(12,iZ y.1)]) (λy=>stL S rg [(9,.arr 1 (List.map (AV.int .u32) y.2),g1)]) (an (fZ<|fZ<|fc (VW.slen lzZ)<|fZ<|fZ<|fn)<|sc O<|sn) (λy _ h=>?_)))
 obtain⟨x,out⟩:=y
 refine af<|aa<|a9 O O<|nZ<|qZ<|cZ h O (λhb h=>?_) (λhb h=>?_)
 ·exact kZ<|qZ<|bZ<|af<|mvZ (iZ x) O<|asZ (iZ x) O<|nZ<|rZ<|mvZ (.sl 1 rg 9 g1 0 out.length) O<|mvZ (iZ x) O<|mvZ (ae a) O<|mvZ (iZ x) O<|aa<|clZ O<|cq h λr h=>mvZ (ae a) O<|mvZ (iZ x) O<|tkZ h (λhg1 h=>aa<|aD O O hg1<|aa<|clZ O<|cq h λr1 h=>aa<|kC O O dZ<|aa<|rb O O<|mvZ (iZ n) O<|tkZ h (λhg2 h=>aa<|e_ O O hg2<|aa<|bo bU bN O<|tkZ h (λhi h=>aa<|bA aR aX dZ O O hi<|aa<|b7 (aZ 9 O) aX dZ (x':=(IntKind.wrap .u32<|(bits .or .u64 r<|IntKind.wrap .u64<|r1*2^(Int.toNat 32)) / 2^(Int.toNat n))) (λ_=>O) O O (cT hi lzZ) O O aT<|nZ<|rZ<|tkZ h (λhg3 h=>aa<|aD O O hg3<|mvZ (iZ<|x+1) O<|nZ<|⟨((x+1),(cg out x<|IntKind.wrap .u32<|(bits .or .u64 r<|IntKind.wrap .u64<|r1*2^(Int.toNat 32)) / 2^(Int.toNat n))),(an (fZ<|fZ<|fc (VW.slen lzZ)<|fZ<|fZ<|fn)<|sc O<|sn),h⟩))))
 exact xsZ<|af<|mvZ (.sl 1 rg 9 g1 0 out.length) O<|asZ (.sl 1 rg 9 g1 0 out.length) O<|aC<|aw (v:=.sl 1 rg 9 g1 0 out.length) O<|aG<|bk (k:=9) (xs:=List.map (AV.int .u32) out) O (v':=ae out) (ba O)<|goZ hrg<|hQ _ h
theorem hH {a:List Int} {b:List Int} {Q:List Int->List Int->Option Int->Prop} (h:fu a b Q) (hQ:∀r1 r2 r3,Q r1 r2 r3->R (.tuple [ae r1,ae r2,bi 82 r3]) S) :
  Ctr Tryz.prog 243 [ae a,ae b] S R:=by
 refine aK Tryz.func243 rfl Tryz.ntmps243 Tryz.results243 krZ (λrg hrg=>?_)
 refine af<|asZ .nil O<|asZ .nil O<|asZ .niface O<|aW<|mvZ (ae a) O<|aa<|clZ O<|br h λa1 h=>mvZ (ae b) O<|aa<|clZ O<|br h λb1 h=>asZ (ae a1) O<|asZ (ae b1) O<|nZ<|qZ<|af<|mvZ (ae b1) O<|aa<|aF aR O<|aa<|bJ O O<|nZ<|cZ h O (λhb h=>?_) (λhb h=>?_)
 ·exact af<|aa<|ct (by rw[gU];trivial) (v:=iZ 8) O<|asZ .nil O<|asZ .nil O<|asZ (.iface 82<|iZ 8) O<|aC<|aw (v:=.nil) O<|aw (v:=.nil) O<|aw (v:=.iface 82 (iZ 8)) O<|aG<|aJ hrg (VW.tupL<|vl' (VW.nilL)<|vl' (VW.nilL)<|vZ<|vn)<|hQ _ _ _ h
 refine kZ<|qZ<|af<|mvZ (ae a1) O<|mvZ (ae b1) O<|aa<|clZ O<|eg h λr h=>aa<|a9 O O<|nZ<|cZ h O (λhb1 h=>?_) (λhb1 h=>?_)
 ·exact af<|mvZ (ae a1) O<|asZ .nil O<|asZ (ae a1) O<|asZ .niface O<|aC<|aw (v:=.nil) O<|aw (v:=ae a1) O<|aw (v:=.niface) O<|aG<|aJ hrg (VW.tupL<|vl' (VW.nilL)<|vZ<|vZ<|vn)<|hQ _ _ _ h
 refine kZ<|qZ<|af<|mvZ (ae b1) O<|aa<|aF aR O<|aa<|bJ O O<|nZ<|cZ h O (λhb2 h=>?_) (λhb2 h=>?_)
 ·exact af<|mvZ (ae a1) O<|mvZ (ae b1) O<|tkZ h (λhg h=>aa<|aM aR aX dZ (λ_=>O) O O hg<|aa<|aN aX cH O O (v:=.int .u32 (at' b1 0)) O<|aa<|clZ O<|mG h λr1 r2 h=>mvZ (.tuple [ae r1,.int .u32 r2]) O<|aa<|ah (v:=ae r1) O O O<|aa<|ah (v:=.int .u32 r2) O O O<|asZ (ae r1) O<|asZ (.int .u32 r2) O<|aW<|mvZ (ae r1) O<|mvZ (.int .u32 r2) O<|aa<|bo bN td3 O<|aa<|clZ O<|kF h λr3 h=>asZ (ae r1) O<|asZ (ae r3) O<|asZ .niface O<|aC<|aw (v:=ae r1) O<|aw (v:=ae r3) O<|aw (v:=.niface) O<|aG<|aJ hrg (VW.tupL<|vZ<|vZ<|vZ<|vn)<|hQ _ _ _ h)
 refine kZ<|af<|mvZ (ae b1) O<|mvZ (ae b1) O<|aa<|aF aR O<|tkZ h (λhg1 h=>aa<|bt O O hg1<|tkZ h (λhg2 h=>aa<|aM aR aX dZ (λ_=>O) O O hg2<|aa<|aN aX cH O O (v:=.int .u32 (at' b1<|(b1.length:Int)-1)) O (aa<|clZ O<|hO h λn h=>asZ (iZ n) O<|aW<|mvZ (ae b1) O<|mvZ (iZ n) O<|aa<|clZ O<|nt h λr4 h=>mvZ (ae b1) O<|aa<|aF aR O<|tkZ h (λhg3 h=>aa<|mD aR aX dZ (λ_=>O) O (l:=0) (h:=(b1.length:Int)) O O hg3<|stZ h (λv hs h=>wZ rg<|aE (v:=ae v) (by subst hs;rfl)<|aW<|mvZ (ae a1) O<|mvZ (iZ n) O<|aa<|clZ O<|mI rg 61 h λu g1 h=>l_ aT<|asZ (.sl 1 rg 61 g1 0 u.length) O<|nZ<|qZ<|tkZ h (λhg4 h=>tkZ h (λhg5 h=>tkZ h (λhg6 h=>tkZ h (λhg7 h=>Vc.drawn' bx rg (λ_=>fi) krZ<|dP O O<|au (v:=ae v) O<|dP O O<|au (v:=ae v) O<|dP O O<|aF aR O<|dP O O<|bt O O hg4<|dP O O<|aM aR aX dZ (λ_=>O) O O hg5<|dP O O<|aN aX cH O O (v:=.int .u32 (at' v<|(v.length:Int)-1)) O (dP O O<|bo bN bU O<|dP O O<|au (v:=ae v) O<|dP O O<|au (v:=ae v) O<|dP O O<|aF aR O<|dP O O<|bt O O hg6<|dP O O<|aM aR aX dZ (λ_=>O) O O hg7 ?_))))))))))
 refine dP O O<|aN aX cH O O (v:=.int .u32 (at' v<|(v.length:Int)-2)) O (dP O O<|bo bN bU O<|dP O O<|aE (v:=.int .u64 (IntKind.wrap .u64<|at' v<|(v.length:Int)-1)) O (dP O O<|aE (v:=.int .u64 (IntKind.wrap .u64<|at' v<|(v.length:Int)-2)) O (dN<|af<|mvZ (.sl 1 rg 61 g1 0 u.length) O<|aa<|c7 aR O<|mvZ (ae v) O<|aa<|aF aR O<|tkZ h (λhg8 h=>aa<|bt O O hg8<|tkZ h (λhg9 h=>wZ rg<|g_ aR dU cL (enc:=AV.int .u32) (z':=0) bR (kk:=1) O O O hg9 (λg2=>asZ (.sl 1 rg 81 g2 0<|Int.toNat<|(u.length:Int)-(v.length:Int)) O<|nZ<|qZ<|af<|mvZ (.sl 1 rg 81 g2 0<|Int.toNat<|(u.length:Int)-(v.length:Int)) O<|aa<|c7 aR O<|tkZ h (λhg10 h=>aa<|bt O O hg10<|stZ h (λj hs1 h=>wZ rg<|aE (v:=iZ j) (by subst hs1;rfl)<|nZ<|bZ<|lgZ h (g1,g2) (λy=>aQ [(4,.sl 1 rg 81 y.2.2 0 y.1.2.2.length),(9,iZ n),(10,ae v),(11,.sl 1 rg 61 y.2.1 0 y.1.2.1.length),(12,.int .u64 (IntKind.wrap .u64<|at' v<|(v.length:Int)-1)),(13,.int .u64 (IntKind.wrap .u64<|at' v<|(v.length:Int)-2)),(14,iZ y.1.1)]) (λy=>stL S rg [(61,.arr 1 (List.map (AV.int .u32) y.1.2.1),y.2.1),(81,.arr 1 (List.map (AV.int .u32) y.1.2.2),y.2.2)]) (an (fc (VW.slen lzZ)<|aA<|fZ<|fZ<|fn)<|sc O<|sc O<|sn) (λy _ h=>?_)))))))))
 obtain⟨⟨j1,u1,q⟩,⟨g3,g4⟩⟩:=y
 refine qZ<|af<|mvZ (iZ j1) O<|aa<|ey O O<|nZ<|cZ h O (λhb3 h=>?_) (λhb3 h=>?_)
 ·refine kZ<|qZ<|bZ<|qZ<|tkZ h (λhg11 h=>tkZ h (λhi h=>tkZ h (λhg12 h=>tkZ h (λhg13 h=>tkZ h (λhi1 h=>Vc.drawn' bx rg (λ_=>fi) krZ<|dP O O<|au (v:=.sl 1 rg 61 g3 0 u1.length) O<|dP O O<|au (v:=iZ j1) O<|dP O O<|au (v:=ae v) O<|dP O O<|aF aR O<|dP O O<|aD O O hg11<|dP O O<|bA aR aX dZ O O hi<|dL (E:=([(rg,61)],[])) O O (by simp) (cfn) (cI (aZ 61 O) aX cH O (cT hi lzZ) O (v:=.int .u32 (at' u1<|j1+(v.length:Int))) O (dP O O<|bo bN bU O<|dP O O<|kC O O dZ<|dP O O<|au (v:=.sl 1 rg 61 g3 0 u1.length) O<|dP O O<|au (v:=iZ j1) O<|dP O O<|au (v:=ae v) O<|dP O O<|aF aR O<|dP O O<|aD O O hg12<|dP O O<|bt O O hg13<|dP O O<|bA aR aX dZ O O hi1<|dL (E:=([(rg,61)],[])) O O (by simp) (cfa (by simp[aV])<|cfn) (cI (aZ 61 O) aX cH O (cT hi1 lzZ) O (v:=.int .u32 (at' u1<|(j1+(v.length:Int))-1)) O (dP O O<|bo bN bU O<|dP O O<|rb O O<|dP O O<|aE (v:=.int .u64 (bits .or .u64 (IntKind.wrap .u64<|(IntKind.wrap .u64<|at' u1<|j1+(v.length:Int))*2^(Int.toNat 32)) (IntKind.wrap .u64<|at' u1<|(j1+(v.length:Int))-1))) O (dN<|qZ<|tkZ h (λhg14 h=>tkZ h (λhg15 h=>Vc.drawn' bx rg (λ_=>fi) krZ ?_))))))))))))
  refine dP O O<|au (v:=.int .u64 (bits .or .u64 (IntKind.wrap .u64<|(IntKind.wrap .u64<|at' u1<|j1+(v.length:Int))*2^(Int.toNat 32)) (IntKind.wrap .u64<|at' u1<|(j1+(v.length:Int))-1))) O (dP O O<|au (v:=.int .u64 (IntKind.wrap .u64<|at' v<|(v.length:Int)-1)) O (dP O O<|t8 O O hg14<|dP O O<|au (v:=.int .u64 (bits .or .u64 (IntKind.wrap .u64<|(IntKind.wrap .u64<|at' u1<|j1+(v.length:Int))*2^(Int.toNat 32)) (IntKind.wrap .u64<|at' u1<|(j1+(v.length:Int))-1))) O (dP O O<|au (v:=.int .u64 (IntKind.wrap .u64<|at' v<|(v.length:Int)-1)) O (dP O O<|xK O O hg15<|dP O O<|aE (v:=.int .u64 (IntKind.wrap .u64<|Int.tdiv (bits .or .u64 (IntKind.wrap .u64<|(IntKind.wrap .u64<|at' u1<|j1+(v.length:Int))*2^(Int.toNat 32)) (IntKind.wrap .u64<|at' u1<|(j1+(v.length:Int))-1)) (IntKind.wrap .u64<|at' v<|(v.length:Int)-1))) O (dP O O<|aE (v:=.int .u64 (Int.tmod (bits .or .u64 (IntKind.wrap .u64<|(IntKind.wrap .u64<|at' u1<|j1+(v.length:Int))*2^(Int.toNat 32)) (IntKind.wrap .u64<|at' u1<|(j1+(v.length:Int))-1)) (IntKind.wrap .u64<|at' v<|(v.length:Int)-1))) O (dN ?_))))))
  refine jgZ (γ:=Nat×Nat) h (λy=>aQ [(4,.sl 1 rg 81 y.2.2 0 q.length),(9,iZ n),(10,ae v),(11,.sl 1 rg 61 y.2.1 0 u1.length),(12,.int .u64 (IntKind.wrap .u64<|at' v<|(v.length:Int)-1)),(13,.int .u64 (IntKind.wrap .u64<|at' v<|(v.length:Int)-2)),(14,iZ j1),(16,.int .u64 y.1)]) (λy=>stL S rg [(61,.arr 1 (List.map (AV.int .u32) u1),y.2.1),(81,.arr 1 (List.map (AV.int .u32) q),y.2.2)]) (λy h=>?_) (λ_ h=>?_)
  ·obtain⟨guess,⟨g5,g6⟩⟩:=y
   refine jgZ (γ:=Nat×Nat) h (λy=>aQ [(4,.sl 1 rg 81 y.2.2 0 q.length),(9,iZ n),(10,ae v),(11,.sl 1 rg 61 y.2.1 0 y.1.2.length),(12,.int .u64 (IntKind.wrap .u64<|at' v<|(v.length:Int)-1)),(13,.int .u64 (IntKind.wrap .u64<|at' v<|(v.length:Int)-2)),(14,iZ j1),(16,.int .u64 y.1.1)]) (λy=>stL S rg [(61,.arr 1 (List.map (AV.int .u32) y.1.2),y.2.1),(81,.arr 1 (List.map (AV.int .u32) q),y.2.2)]) (λy h=>?_) (λ_ h=>?_)
   ·obtain⟨⟨guess1,u2⟩,⟨g7,g8⟩⟩:=y
    exact rZ<|mvZ (.sl 1 rg 81 g8 0 q.length) O<|mvZ (iZ j1) O<|mvZ (.int .u64 guess1) O<|aa<|bo bU bN O<|tkZ h (λhi2 h=>aa<|bA aR aX dZ O O hi2<|aa<|b7 (aZ 81 O) aX dZ (x':=(IntKind.wrap .u32 guess1)) (λ_=>O) O O (cT hi2 lzZ) O O aT<|nZ<|rZ<|mvZ (iZ j1) O<|tkZ h (λhg16 h=>aa<|bt O O hg16<|asZ (iZ<|j1-1) O<|nZ<|⟨(((j1-1),u2,(cg q j1<|IntKind.wrap .u32 guess1)),(g7,g8)),(an (fc (VW.slen lzZ)<|aA<|fZ<|fZ<|fn)<|sc O<|sc O<|sn),h⟩))
   refine af<|mvZ (.sl 1 rg 61 g5 0 u1.length) O<|mvZ (iZ j1) O<|mvZ (iZ j1) O<|mvZ (ae v) O<|aa<|aF aR O<|tkZ h (λhg17 h=>aa<|aD O O hg17<|tkZ h (λhg18 h=>aa<|aD O O hg18<|tkZ h (λhsl h=>aa<|su aR aX dZ O (l:=j1) (h:=((j1+(v.length:Int))+1)) O O hsl (mvZ (ae v) O<|mvZ (.int .u64 guess) O<|aa<|clZ O<|uV (qq<|aZ 61 O)<|nq h λu3 r5 h=>l_ aT<|tkZ h (λhl h=>nZ<|cZ h O (λhb4 h=>?_) (λhb4 h=>?_))))))
   ·exact af<|mvZ (.int .u64 guess) O<|aa<|lD O O<|asZ (.int .u64<|IntKind.wrap .u64<|guess-1) O<|nZ<|rZ<|mvZ (.sl 1 rg 61 g5 0 u1.length) O<|mvZ (iZ j1) O<|mvZ (iZ j1) O<|mvZ (ae v) O<|aa<|aF aR O<|tkZ h (λhg19 h=>aa<|aD O O hg19<|tkZ h (λhg20 h=>aa<|aD O O hg20<|tkZ h (λhsl1 h=>aa<|su aR aX dZ O (l:=j1) (h:=((j1+(v.length:Int))+1)) O O hsl1 (mvZ (ae v) O<|aa<|clZ O<|uV (qq<|aZ 61 O)<|nu h λu4 h=>l_ aT<|tkZ h (λhl1 h=>nZ<|⟨(((IntKind.wrap .u64<|guess-1),u4),(g5,g6)),(an (fZ<|fZ<|fZ<|fc (VW.slen lzZ)<|aA<|fn)<|sc O<|sc O<|sn),h⟩)))))
   exact kZ<|⟨((guess,u3),(g5,g6)),(an (fZ<|fZ<|fZ<|fc (VW.slen lzZ)<|aA<|fn)<|sc O<|sc O<|sn),h⟩
  refine bZ<|lgZ h (g3,g4) (λy=>aQ [(4,.sl 1 rg 81 y.2.2 0 q.length),(9,iZ n),(10,ae v),(11,.sl 1 rg 61 y.2.1 0 u1.length),(12,.int .u64 (IntKind.wrap .u64<|at' v<|(v.length:Int)-1)),(13,.int .u64 (IntKind.wrap .u64<|at' v<|(v.length:Int)-2)),(14,iZ j1),(16,.int .u64 y.1.1),(17,.int .u64 y.1.2)]) (λy=>stL S rg [(61,.arr 1 (List.map (AV.int .u32) u1),y.2.1),(81,.arr 1 (List.map (AV.int .u32) q),y.2.2)]) (an (aA<|aA<|fZ<|fn)<|sc O<|sc O<|sn) (λy _ h=>?_)
  obtain⟨⟨guess2,rest⟩,⟨g9,g10⟩⟩:=y
  refine jgZ (γ:=Nat×Nat) h (λy=>aQ [(4,.sl 1 rg 81 y.2.2 0 q.length),(9,iZ n),(10,ae v),(11,.sl 1 rg 61 y.2.1 0 u1.length),(12,.int .u64 (IntKind.wrap .u64<|at' v<|(v.length:Int)-1)),(13,.int .u64 (IntKind.wrap .u64<|at' v<|(v.length:Int)-2)),(14,iZ j1),(16,.int .u64 guess2),(17,.int .u64 rest)]) (λy=>stL S rg [(61,.arr 1 (List.map (AV.int .u32) u1),y.2.1),(81,.arr 1 (List.map (AV.int .u32) q),y.2.2)]) (λy h=>?_) (λ_ h=>?_)
  ·obtain⟨_,⟨g11,g12⟩⟩:=y
   refine bZ<|af<|mvZ (.int .u64 guess2) O<|aa<|lD O O<|asZ (.int .u64<|IntKind.wrap .u64<|guess2-1) O<|aW<|mvZ (.int .u64 rest) O<|mvZ (.int .u64<|IntKind.wrap .u64<|at' v<|(v.length:Int)-1) O<|aa<|jD O O<|stZ h (λrest1 hs2 h=>wZ rg<|aE (v:=.int .u64 rest1) (by subst hs2;rfl)<|aW<|mvZ (.int .u64 rest1) O<|aa<|ey O O<|nZ<|cZ h O (λhb5 h=>?_) (λhb5 h=>?_))
   ·exact xnZ O<|sS<|⟨((IntKind.wrap .u64<|guess2-1),(g11,g12)),(an (aA<|aA<|fn)<|sc O<|sc O<|sn),h⟩
   exact kZ<|⟨(((IntKind.wrap .u64<|guess2-1),rest1),(g11,g12)),(an (aA<|aA<|fZ<|fn)<|sc O<|sc O<|sn),h⟩
  refine af<|mvZ (.int .u64 guess2) O<|aa<|ey O O<|mvZ (.bool<|decide<|4294967296<=guess2) O<|gfZ h O O (λhb6 h=>?_) (λhb6 h=>?_)
  ·refine mvZ (.int .u64 guess2) O<|gTZ O O hb6<|mvZ (.int .u64<|IntKind.wrap .u64<|at' v<|(v.length:Int)-2) O<|gTZ O O hb6<|aa<|sv O O<|gTZ O O hb6<|mvZ (.int .u64 rest) O<|gTZ O O hb6<|aa<|kC O O dZ<|gTZ O O hb6<|mvZ (.sl 1 rg 61 g9 0 u1.length) O<|gTZ O O hb6<|mvZ (iZ j1) O<|gTZ O O hb6<|mvZ (ae v) O<|gTZ O O hb6<|aa<|aF aR O<|gTZ O O hb6<|tkZ h (λhg21 h=>aa<|aD O O hg21<|gTZ O O hb6<|tkZ h (λhg22 h=>aa<|bt O O hg22<|gTZ O O hb6<|tkZ h (λhi3 h=>aa<|bA aR aX dZ O O hi3<|gTZ O O hb6<|aa<|cI (aZ 61 O) aX cH O (cT hi3 lzZ) O (v:=.int .u32 (at' u1<|(j1+(v.length:Int))-2)) O (gTZ O O hb6<|aa<|bo bN bU O<|gTZ O O hb6<|aa<|rb O O<|gTZ O O hb6<|aa<|dr O O<|aa<|aI O hb6 (v:=.bool (decide<|(bits .or .u64 (IntKind.wrap .u64<|rest*2^(Int.toNat 32))<|IntKind.wrap .u64<|at' u1<|(j1+(v.length:Int))-2)<(IntKind.wrap .u64<|guess2*(IntKind.wrap .u64<|at' v<|(v.length:Int)-2)))) O (nZ<|cZ h O (λhb7 h=>?_) (λhb7 h=>?_))))))
   ·exact kZ<|⟨((),(g9,g10)),(an (aA<|aA<|fZ<|fn)<|sc O<|sc O<|sn),h⟩
   exact xsZ<|⟨(guess2,(g9,g10)),(an (aA<|aA<|fn)<|sc O<|sc O<|sn),h⟩
  exact gFZ O O hb6 O<|gFZ O O hb6 O<|gFZ O O hb6 O<|gFZ O O hb6 O<|gFZ O O hb6 O<|gFZ O O hb6 O<|gFZ O O hb6 O<|gFZ O O hb6 O<|gFZ O O hb6 O<|gFZ O O hb6 O<|gFZ O O hb6 O<|gFZ O O hb6 O<|gFZ O O hb6 O<|gFZ O O hb6 O<|gFZ O O hb6 O<|aa<|aH O hb6 (v:=.bool true) O<|nZ<|cTZ O O<|kZ<|⟨((),(g9,g10)),(an (aA<|aA<|fZ<|fn)<|sc O<|sc O<|sn),h⟩
 exact xsZ<|af<|mvZ (.sl 1 rg 81 g4 0 q.length) O<|ff (bh (k:=81) (xs:=List.map (AV.int .u32) q) O (es:=[(9,iZ n),(11,.sl 1 rg 61 g3 0 u1.length),(169,ae q)]) (fZ<|fc (dR O)<|fc (ba O)<|fn) (m:=[(61,.arr 1 (List.map (AV.int .u32) u1),g3)]) (sc O<|sn)) (aa<|clZ O<|br h λq1 h=>mvZ (.sl 1 rg 61 g3 0 u1.length) O<|mvZ (iZ n) O<|ff (bh (k:=61) (xs:=List.map (AV.int .u32) u1) O (es:=[(170,ae q1),(171,ae u1),(172,iZ n)]) (fZ<|fc (ba O)<|fZ<|fn) (m:=[]) (sn)) (aa<|clZ O<|mH h λr6 h=>aa<|clZ O<|br h λr7 h=>asZ (ae q1) O<|asZ (ae r7) O<|asZ .niface O<|aC<|aw (v:=ae q1) O<|aw (v:=ae r7) O<|aw (v:=.niface) O<|aG<|aJ hrg (VW.tupL<|vZ<|vZ<|vZ<|vn)<|hQ _ _ _ h))
theorem j5 {a:List Int} {b:List Int} {Q:List Int->Prop} (h:gC a b Q) (hQ:∀r1,Q r1->R (ae r1) S) :
  Ctr Tryz.prog 242 [ae a,ae b] S R:=by
 refine aK Tryz.func242 rfl Tryz.ntmps242 Tryz.results242 krZ (λrg hrg=>?_)
 refine af<|asZ .nil O<|aW<|mvZ (ae a) O<|aa<|clZ O<|br h λa1 h=>mvZ (ae b) O<|aa<|clZ O<|br h λb1 h=>asZ (ae a1) O<|asZ (ae b1) O<|nZ<|qZ<|bZ<|lpZ h (λy=>aQ [(0,ae y.1),(1,ae y.2)]) (λy=>stL S rg []) (an (fZ<|fZ<|fn)<|sn) (λy _ h=>?_)
 obtain⟨a2,b2⟩:=y
 refine qZ<|af<|mvZ (ae b2) O<|aa<|aF aR O<|aa<|dr O O<|nZ<|cZ h O (λhb h=>?_) (λhb h=>?_)
 ·exact kZ<|bZ<|af<|mvZ (ae a2) O<|mvZ (ae b2) O<|aa<|clZ O<|hH h λr r1 r2 h=>mvZ (.tuple [ae r,ae r1,bi 82 r2]) O<|aa<|ah (v:=ae r) O O O<|aa<|ah (v:=ae r1) O O O<|aa<|ah (v:=bi 82 r2) O O O<|asZ (ae r) O<|asZ (ae r1) O<|asZ (bi 82 r2) O<|nZ<|rZ<|mvZ (ae b2) O<|mvZ (ae r1) O<|asZ (ae b2) O<|asZ (ae r1) O<|nZ<|⟨(b2,r1),(an (fZ<|fZ<|fn)<|sn),h⟩
 exact xsZ<|af<|mvZ (ae a2) O<|asZ (ae a2) O<|aC<|gv1 hrg<|hQ _ h
theorem cW {a:List Int} {b:List Int} {Q:List Int->Prop} (h:cx a b Q) (hQ:∀r1,Q r1->R (ae r1) S) :
  Ctr Tryz.prog 164 [ae a,ae b] S R:=by
 refine aK Tryz.func164 rfl Tryz.ntmps164 Tryz.results164 krZ (λrg hrg=>?_)
 refine af<|asZ .nil O<|aW<|mvZ (ae a) O<|aa<|aF aR O<|mvZ (ae b) O<|aa<|aF aR O<|tkZ h (λhg h=>aa<|aD O O hg<|tkZ h (λhg1 h=>wZ rg<|g_ aR dU cL (enc:=AV.int .u32) (z':=0) bR (kk:=1) O O O hg1 (λg1=>asZ (.sl 1 rg 16 g1 0<|Int.toNat<|(a.length:Int)+(b.length:Int)) O (nZ<|qZ<|af<|mvZ (ae a) O<|aa<|aF aR O<|mvZ (iZ 0) O<|nZ<|bZ<|lpZ h (λy=>aQ [(1,ae b),(5,.sl 1 rg 16 g1 0 y.2.length),(17,ae a),(18,iZ (a.length:Int)),(19,iZ y.1)]) (λy=>stL S rg [(16,.arr 1 (List.map (AV.int .u32) y.2),g1)]) (an (fZ<|fc (VW.slen lzZ)<|fZ<|fZ<|fZ<|fn)<|sc O<|sn) (λy _ h=>?_)))))
 obtain⟨x,out⟩:=y
 refine af<|aa<|a9 O O<|nZ<|qZ<|cZ h O (λhb h=>?_) (λhb h=>?_)
 ·refine kZ<|qZ<|bZ<|af<|mvZ (iZ x) O<|tkZ h (λhg2 h=>aa<|aM aR aX dZ (λ_=>O) O O hg2<|aa<|aN aX cH O O (v:=.int .u32 (at' a x)) O<|asZ (iZ x) O<|asZ (.int .u32<|at' a x) O<|aW<|asZ (.int .u64 0) O<|nZ<|qZ<|af<|mvZ (ae b) O<|aa<|aF aR O<|mvZ (iZ 0) O<|nZ<|bZ<|lpZ h (λy=>aQ [(1,ae b),(5,.sl 1 rg 16 g1 0 y.2.2.length),(6,iZ x),(7,.int .u32 (at' a x)),(8,.int .u64 y.1),(17,ae a),(18,iZ (a.length:Int)),(19,iZ x),(24,ae b),(25,iZ (b.length:Int)),(26,iZ y.2.1)]) (λy=>stL S rg [(16,.arr 1 (List.map (AV.int .u32) y.2.2),g1)]) (an (aA<|aA<|fZ<|fZ<|fZ<|fn)<|sc O<|sn) (λy _ h=>?_))
  obtain⟨carry,x1,out1⟩:=y
  refine af<|aa<|a9 O O<|nZ<|qZ<|cZ h O (λhb1 h=>?_) (λhb1 h=>?_)
  ·refine kZ<|qZ<|bZ<|af<|mvZ (iZ x1) O<|tkZ h (λhg3 h=>aa<|aM aR aX dZ (λ_=>O) O O hg3<|aa<|aN aX cH O O (v:=.int .u32 (at' b x1)) O<|asZ (iZ x1) O<|asZ (.int .u32<|at' b x1) O<|aW<|mvZ (.int .u64 carry) O<|mvZ (.int .u32<|at' a x) O<|aa<|bo bN bU O<|mvZ (.int .u32<|at' b x1) O<|aa<|bo bN bU O<|aa<|sv O O<|mvZ (.sl 1 rg 16 g1 0 out1.length) O<|mvZ (iZ x) O<|mvZ (iZ x1) O<|tkZ h (λhg4 h=>aa<|aD O O hg4<|tkZ h (λhi h=>aa<|bA aR aX dZ O O hi<|aa<|cI (aZ 16 O) aX cH O (cT hi lzZ) O (v:=.int .u32 (at' out1<|x+x1)) O (aa<|bo bN bU O<|aa<|jD O O<|aa<|jD O O<|stZ h (λcarry1 hs h=>wZ rg<|aE (v:=.int .u64 carry1) (by subst hs;rfl)<|aW<|mvZ (.sl 1 rg 16 g1 0 out1.length) O<|mvZ (iZ x) O<|mvZ (iZ x1) O<|tkZ h (λhg5 h=>aa<|aD O O hg5<|mvZ (.int .u64 carry1) O<|aa<|bo bU bN O<|tkZ h (λhi1 h=>aa<|bA aR aX dZ O O hi1<|aa<|b7 (aZ 16 O) aX dZ (x':=(IntKind.wrap .u32 carry1)) (λ_=>O) O O (cT hi1 lzZ) O O aT<|nZ<|rZ<|mvZ (.int .u64 carry1) O<|aa<|e_ O O dZ<|asZ (.int .u64<|carry1 / 2^(Int.toNat 32)) O<|nZ<|rZ<|tkZ h (λhg6 h=>aa<|aD O O hg6<|mvZ (iZ<|x1+1) O<|nZ ?_))))))))
   exact⟨((carry1 / 2^(Int.toNat 32)),(x1+1),(cg out1 (x+x1)<|IntKind.wrap .u32 carry1)),(an (fZ<|fc (VW.slen lzZ)<|aA<|aA<|fZ<|fn)<|sc O<|sn),h⟩
  exact xsZ<|rZ<|mvZ (.sl 1 rg 16 g1 0 out1.length) O<|mvZ (iZ x) O<|mvZ (ae b) O<|aa<|aF aR O<|tkZ h (λhg7 h=>aa<|aD O O hg7<|mvZ (.int .u64 carry) O<|aa<|bo bU bN O<|tkZ h (λhi2 h=>aa<|bA aR aX dZ O O hi2<|aa<|b7 (aZ 16 O) aX dZ (x':=(IntKind.wrap .u32 carry)) (λ_=>O) O O (cT hi2 lzZ) O O aT<|nZ<|rZ<|tkZ h (λhg8 h=>aa<|aD O O hg8<|mvZ (iZ<|x+1) O<|nZ<|⟨((x+1),(cg out1 (x+(b.length:Int))<|IntKind.wrap .u32 carry)),(an (fZ<|fc (VW.slen lzZ)<|fZ<|fZ<|fZ<|fn)<|sc O<|sn),h⟩)))
 exact xsZ<|af<|mvZ (.sl 1 rg 16 g1 0 out.length) O<|ff (bh (k:=16) (xs:=List.map (AV.int .u32) out) O (es:=[(65,ae out)]) (fc (ba O)<|fn) (m:=[])<|sn)<|aa<|clZ O<|br h λr h=>asZ (ae r) O<|aC<|gv1 hrg<|hQ _ h
theorem nv {a:List Int} {Q:Int->Prop} (h:iR a Q) (hQ:∀r1,Q r1->R (iZ r1) S) :
  Ctr Tryz.prog 241 [ae a] S R:=by
 refine aK Tryz.func241 rfl Tryz.ntmps241 Tryz.results241 krZ (λrg hrg=>?_)
 refine af<|asZ (iZ 0) O<|nZ<|qZ<|af<|mvZ (ae a) O<|aa<|aF aR O<|tkZ h (λhg h=>aa<|bt O O hg<|asZ (iZ<|(a.length:Int)-1) O<|nZ<|bZ<|lpZ h (λy=>aQ [(0,ae a),(3,iZ y)]) (λy=>stL S rg []) (an (fZ<|fZ<|fn)<|sn) (λi _ h=>qZ<|af<|mvZ (iZ i) O<|aa<|ey O O<|nZ<|cZ h O (λhb h=>?_) (λhb h=>?_)))
 ·refine kZ<|qZ<|bZ<|af<|mvZ (ae a) O<|mvZ (iZ i) O<|tkZ h (λhg1 h=>aa<|aM aR aX dZ (λ_=>O) O O hg1<|aa<|aN aX cH O O (v:=.int .u32 (at' a i)) O<|aa<|cG O O<|nZ<|cZ h O (λhb1 h=>?_) (λhb1 h=>?_))
  ·exact af<|mvZ (iZ i) O<|tkZ h (λhg2 h=>aa<|rc O O hg2<|mvZ (ae a) O<|mvZ (iZ i) O<|tkZ h (λhg3 h=>aa<|aM aR aX dZ (λ_=>O) O O hg3<|aa<|aN aX cH O O (v:=.int .u32 (at' a i)) O<|aa<|clZ O<|ie h λr h=>tkZ h (λhg4 h=>aa<|aD O O hg4<|asZ (iZ<|(32*i)+r) O<|aC<|gv1 hrg<|hQ _ h)))
  exact kZ<|rZ<|mvZ (iZ i) O<|tkZ h (λhg5 h=>aa<|bt O O hg5<|asZ (iZ<|i-1) O<|nZ<|⟨(i-1),(an (fZ<|fZ<|fn)<|sn),h⟩)
 exact xsZ<|af<|asZ (iZ 0) O<|aC<|gv1 hrg<|hQ _ h
theorem oh {a:List Int} {b:List Int} {Q:List Int->Prop} (h:gD a b Q) (hQ:∀r1,Q r1->R (ae r1) S) :
  Ctr Tryz.prog 166 [ae a,ae b] S R:=by
 refine aK Tryz.func166 rfl Tryz.ntmps166 Tryz.results166 krZ (λrg hrg=>?_)
 refine af<|asZ .nil O<|aW<|mvZ (ae a) O<|aa<|aF aR O<|mvZ (ae b) O<|aa<|aF aR O<|aa<|sw O O<|tkZ h (λhg h=>aa<|aD O O hg<|tkZ h (λhg1 h=>wZ rg<|g_ aR dU cL (enc:=AV.int .u32) (z':=0) bR (kk:=1) O O O hg1 (λg1=>asZ (.sl 1 rg 14 g1 0<|Int.toNat<|(max (a.length:Int) (b.length:Int))+1) O (aW<|asZ (.int .u64 0) O<|nZ<|qZ<|af<|mvZ (.sl 1 rg 14 g1 0<|Int.toNat<|(max (a.length:Int) (b.length:Int))+1) O (aa<|c7 aR O<|mvZ (iZ 0) O<|nZ<|bZ<|lpZ h (λy=>aQ [(0,ae a),(1,ae b),(5,.sl 1 rg 14 g1 0 y.2.2.length),(6,.int .u64 y.1),(16,iZ ((Int.toNat<|(max (a.length:Int) (b.length:Int))+1):Int)),(17,iZ y.2.1)]) (λy=>stL S rg [(14,.arr 1 (List.map (AV.int .u32) y.2.2),g1)]) (an (fZ<|fZ<|fc (VW.slen lzZ)<|fZ<|fZ<|fZ<|fn)<|sc O<|sn) (λy _ h=>?_))))))
 obtain⟨carry,x,out⟩:=y
 refine af<|aa<|a9 O O<|nZ<|qZ<|cZ h O (λhb h=>?_) (λhb h=>?_)
 ·exact kZ<|qZ<|bZ<|af<|mvZ (iZ x) O<|asZ (iZ x) O<|aW<|mvZ (.int .u64 carry) O<|mvZ (ae a) O<|mvZ (iZ x) O<|aa<|clZ O<|cq h λr h=>mvZ (ae b) O<|mvZ (iZ x) O<|aa<|clZ O<|cq h λr1 h=>aa<|jD O O<|aa<|jD O O<|stZ h (λcarry1 hs h=>wZ rg<|aE (v:=.int .u64 carry1) (by subst hs;rfl)<|aW<|mvZ (.sl 1 rg 14 g1 0 out.length) O<|mvZ (iZ x) O<|mvZ (.int .u64 carry1) O<|aa<|bo bU bN O<|tkZ h (λhi h=>aa<|bA aR aX dZ O O hi<|aa<|b7 (aZ 14 O) aX dZ (x':=(IntKind.wrap .u32 carry1)) (λ_=>O) O O (cT hi lzZ) O O aT<|nZ<|rZ<|mvZ (.int .u64 carry1) O<|aa<|e_ O O dZ<|asZ (.int .u64<|carry1 / 2^(Int.toNat 32)) O<|nZ<|rZ<|tkZ h (λhg2 h=>aa<|aD O O hg2<|mvZ (iZ<|x+1) O<|nZ<|⟨((carry1 / 2^(Int.toNat 32)),(x+1),(cg out x<|IntKind.wrap .u32 carry1)),(an (fZ<|fZ<|fc (VW.slen lzZ)<|fZ<|fZ<|fZ<|fn)<|sc O<|sn),h⟩)))
 exact xsZ<|af<|mvZ (.sl 1 rg 14 g1 0 out.length) O<|ff (bh (k:=14) (xs:=List.map (AV.int .u32) out) O (es:=[(37,ae out)]) (fc (ba O)<|fn) (m:=[])<|sn)<|aa<|clZ O<|br h λr2 h=>asZ (ae r2) O<|aC<|gv1 hrg<|hQ _ h
theorem j4 {a:List Int} {b:List Int} {Q:List Int->Option Int->Prop} (h:gB a b Q) (hQ:∀r1 r2,Q r1 r2->R (.tuple [ae r1,bi 82 r2]) S) :
  Ctr Tryz.prog 168 [ae a,ae b] S R:=by
 refine aK Tryz.func168 rfl Tryz.ntmps168 Tryz.results168 krZ (λrg hrg=>?_)
 refine af<|asZ .nil O<|asZ .niface O<|nZ<|qZ<|af<|mvZ (ae a) O<|mvZ (ae b) O<|aa<|clZ O<|eg h λr h=>aa<|a9 O O<|nZ<|cZ h O (λhb h=>?_) (λhb h=>?_)
 ·exact af<|aa<|ct (by rw[gU];trivial) (v:=iZ 3) O<|asZ .nil O<|asZ (.iface 82<|iZ 3) O<|aC<|aw (v:=.nil) O<|aw (v:=.iface 82 (iZ 3)) O<|aG<|aJ hrg (VW.tupL<|vl' (VW.nilL)<|vZ<|vn)<|hQ _ _ h
 refine kZ<|af<|mvZ (ae a) O<|aa<|aF aR O<|tkZ h (λhg h=>wZ rg<|g_ aR dU cL (enc:=AV.int .u32) (z':=0) bR (kk:=1) O O O hg (λg1=>asZ (.sl 1 rg 17 g1 0<|Int.toNat (a.length:Int)) O<|aW<|asZ (.int .u64 0) O<|nZ<|qZ<|af<|mvZ (.sl 1 rg 17 g1 0<|Int.toNat (a.length:Int)) O<|aa<|c7 aR O<|mvZ (iZ 0) O<|nZ<|bZ<|lpZ h (λy=>aQ [(0,ae a),(1,ae b),(6,.sl 1 rg 17 g1 0 y.2.2.length),(7,.int .u64 y.1),(19,iZ ((Int.toNat (a.length:Int)):Int)),(20,iZ y.2.1)]) (λy=>stL S rg [(17,.arr 1 (List.map (AV.int .u32) y.2.2),g1)]) (an (fZ<|fZ<|fc (VW.slen lzZ)<|fZ<|fZ<|fZ<|fn)<|sc O<|sn) (λy _ h=>?_)))
 obtain⟨borrow,x,out⟩:=y
 refine af<|aa<|a9 O O<|nZ<|qZ<|cZ h O (λhb1 h=>?_) (λhb1 h=>?_)
 ·exact kZ<|qZ<|bZ<|af<|mvZ (iZ x) O<|asZ (iZ x) O<|aW<|mvZ (ae a) O<|mvZ (iZ x) O<|aa<|clZ O<|cq h λr1 h=>mvZ (ae b) O<|mvZ (iZ x) O<|aa<|clZ O<|cq h λr2 h=>aa<|lD O O<|mvZ (.int .u64 borrow) O<|aa<|lD O O<|stZ h (λd hs h=>wZ rg<|aE (v:=.int .u64 d) (by subst hs;rfl)<|aW<|mvZ (.sl 1 rg 17 g1 0 out.length) O<|mvZ (iZ x) O<|mvZ (.int .u64 d) O<|aa<|bo bU bN O<|tkZ h (λhi h=>aa<|bA aR aX dZ O O hi<|aa<|b7 (aZ 17 O) aX dZ (x':=(IntKind.wrap .u32 d)) (λ_=>O) O O (cT hi lzZ) O O aT<|nZ<|rZ<|mvZ (.int .u64 d) O<|aa<|e_ O O dZ<|asZ (.int .u64<|d / 2^(Int.toNat 63)) O<|nZ<|rZ<|tkZ h (λhg1 h=>aa<|aD O O hg1<|mvZ (iZ<|x+1) O<|nZ<|⟨((d / 2^(Int.toNat 63)),(x+1),(cg out x<|IntKind.wrap .u32 d)),(an (fZ<|fZ<|fc (VW.slen lzZ)<|fZ<|fZ<|fZ<|fn)<|sc O<|sn),h⟩)))
 exact xsZ<|af<|mvZ (.sl 1 rg 17 g1 0 out.length) O<|ff (bh (k:=17) (xs:=List.map (AV.int .u32) out) O (es:=[(40,ae out)]) (fc (ba O)<|fn) (m:=[])<|sn)<|aa<|clZ O<|br h λr3 h=>asZ (ae r3) O<|asZ .niface O<|aC<|aw (v:=ae r3) O<|aw (v:=.niface) O<|aG<|aJ hrg (VW.tupL<|vZ<|vZ<|vn)<|hQ _ _ h
end Go.Proofs.YtnjgdkfhgmebjaaGreat
namespace Go.Proofs.YtnjgdkfhgmebjaaGreat
open Go.Gg
set_option maxRecDepth 100000
variable {S:St} {R:AV->St->Prop}
theorem iK {a:List Int} {Q:Int->Prop} (h:fT a Q) (hQ:∀r1,Q r1->R (iZ r1) S) :
  Ctr Tryz.prog 189 [ae a] S R:=by
 refine aK Tryz.func189 rfl Tryz.ntmps189 Tryz.results189 krZ (λrg hrg=>?_)
 refine af<|asZ (iZ 0) O<|aW<|asZ (iZ 0) O<|nZ<|qZ<|af<|mvZ (ae a) O<|aa<|aF aR O<|mvZ (iZ 0) O<|nZ<|bZ<|lpZ h (λy=>aQ [(3,iZ y.1),(7,ae a),(8,iZ (a.length:Int)),(9,iZ y.2)]) (λy=>stL S rg []) (an (aA<|fn)<|sn) (λy _ h=>?_)
 obtain⟨n,x⟩:=y
 refine af<|aa<|a9 O O<|nZ<|qZ<|cZ h O (λhb h=>?_) (λhb h=>?_)
 ·refine kZ<|qZ<|bZ<|af<|mvZ (iZ x) O<|tkZ h (λhg h=>aa<|aM aR aX dZ (λ_=>O) O O hg<|aa<|aN aX cH O O (v:=.int .u32 (at' a x)) O<|asZ (iZ x) O<|asZ (.int .u32<|at' a x) O<|aW<|mvZ (iZ 0) O<|nZ<|bZ<|lpZ h (λy=>aQ [(3,iZ y.1),(4,iZ x),(5,.int .u32 (at' a x)),(7,ae a),(8,iZ (a.length:Int)),(9,iZ x),(14,iZ y.2)]) (λy=>stL S rg []) (an (aA<|fZ<|fZ<|fZ<|fn)<|sn) (λy _ h=>?_))
  obtain⟨n1,x1⟩:=y
  refine af<|aa<|a9 O O<|nZ<|qZ<|cZ h O (λhb1 h=>?_) (λhb1 h=>?_)
  ·refine kZ<|qZ<|bZ<|af<|mvZ (iZ x1) O<|asZ (iZ x1) O<|aW<|mvZ (.int .u32<|at' a x) O<|mvZ (iZ x1) O<|tkZ h (λhg1 h=>aa<|e_ O O hg1<|aa<|sA O O<|aa<|bJ O O<|nZ<|cZ h O (λhb2 h=>?_) (λhb2 h=>?_))
   ·exact rZ<|mvZ (iZ x) O<|tkZ h (λhg2 h=>aa<|rc O O hg2<|mvZ (iZ x1) O<|tkZ h (λhg3 h=>aa<|aD O O hg3<|tkZ h (λhg4 h=>aa<|aD O O hg4<|asZ (iZ<|((32*x)+x1)+1) O (nZ<|rZ<|tkZ h (λhg5 h=>aa<|aD O O hg5<|mvZ (iZ<|x1+1) O<|nZ<|⟨((((32*x)+x1)+1),(x1+1)),(an (aA<|fZ<|fZ<|fZ<|fn)<|sn),h⟩)))))
   exact kZ<|rZ<|tkZ h (λhg6 h=>aa<|aD O O hg6<|mvZ (iZ<|x1+1) O<|nZ<|⟨(n1,(x1+1)),(an (aA<|fZ<|fZ<|fZ<|fn)<|sn),h⟩)
  exact xsZ<|rZ<|tkZ h (λhg7 h=>aa<|aD O O hg7<|mvZ (iZ<|x+1) O<|nZ<|⟨(n1,(x+1)),(an (aA<|fn)<|sn),h⟩)
 exact xsZ<|af<|mvZ (iZ n) O<|asZ (iZ n) O<|aC<|gv1 hrg<|hQ _ h
theorem ca {a:List Int} {Q:List Int->Prop} (h:ck a Q) (hQ:∀r1,Q r1->R (ae r1) S) :
  Ctr Tryz.prog 188 [ae a] S R:=by
 refine aK Tryz.func188 rfl Tryz.ntmps188 Tryz.results188 krZ (λrg hrg=>?_)
 refine af<|asZ .nil O<|aW<|mvZ (ae a) O<|aa<|aF aR O<|asZ (iZ (a.length:Int)) O<|nZ<|jnZ h (λy=>aQ [(0,ae a),(3,iZ y)]) (λy=>stL S rg []) (λn h=>?_) (λ_ h=>?_)
 ·exact af<|wZ rg<|a8 aR cL bR (es:=[]) O (kk:=1) O O O O O O (λg1=>mvZ (ae a) O<|mvZ (iZ n) O<|tkZ h (λhg h=>aa<|mD aR aX dZ (λ_=>O) O (l:=0) (h:=n) O O hg<|tkZ h (λhg1 h=>wZ rg<|bH aR dU cL bR (es:=([]:List Int)) (xs:=(f8 a 0 n)) (enc:=AV.int .u32) (aZ 18 O) lzZ (O) (kk:=1) O O (λ_=>O) (λ_=>O) hg1 O (λ_=>aT) (λg2=>asZ (.sl 1 rg 18 g2 0<|(([]:List Int)++(f8 a 0 n)).length) O (aC<|aw (v:=.sl 1 rg 18 g2 0 ((([]:List Int)++(f8 a 0 n)).length)) O (aG<|bk (k:=18) (xs:=List.map (AV.int .u32) (([]:List Int)++(f8 a 0 n))) O (v':=ae (([]:List Int)++(f8 a 0 n))) (ba O) (goZ hrg<|hQ _ h)))))))
 refine bZ<|lpZ h (λy=>aQ [(0,ae a),(3,iZ y)]) (λy=>stL S rg []) (an (fZ<|fZ<|fn)<|sn) (λn1 _ h=>qZ<|af<|mvZ (iZ n1) O<|aa<|dr O O<|mvZ (.bool<|decide<|0<n1) O<|gtZ h O O (λhb h=>?_) (λhb h=>?_))
 ·refine mvZ (ae a) O<|gTZ O O hb<|mvZ (iZ n1) O<|gTZ O O hb<|tkZ h (λhg2 h=>aa<|bt O O hg2<|gTZ O O hb<|tkZ h (λhg3 h=>aa<|aM aR aX dZ (λ_=>O) O O hg3<|gTZ O O hb<|aa<|aN aX cH O O (v:=.int .u32 (at' a<|n1-1)) O (gTZ O O hb<|aa<|bJ O O<|aa<|aH O hb (v:=.bool ((at' a<|n1-1) == 0)) O (nZ<|cZ h O (λhb1 h=>?_) (λhb1 h=>?_)))))
  ·exact kZ<|bZ<|rZ<|mvZ (iZ n1) O<|tkZ h (λhg4 h=>aa<|bt O O hg4<|asZ (iZ<|n1-1) O<|nZ<|⟨(n1-1),(an (fZ<|fZ<|fn)<|sn),h⟩)
  exact xsZ<|⟨n1,(an (fZ<|fZ<|fn)<|sn),h⟩
 exact gFZ O O hb O<|gFZ O O hb O<|gFZ O O hb O<|gFZ O O hb O<|gFZ O O hb O<|aa<|aI O hb (v:=.bool false) O<|nZ<|cFZ O O<|xsZ<|⟨n1,(an (fZ<|fZ<|fn)<|sn),h⟩
theorem bz {a:List Int} {i:Int} {Q:Int->Prop} (h:bD a i Q) (hQ:∀r1,Q r1->R (AV.int .u64 r1) S) :
  Ctr Tryz.prog 187 [ae a,iZ i] S R:=by
 refine aK Tryz.func187 rfl Tryz.ntmps187 Tryz.results187 krZ (λrg hrg=>?_)
 refine af<|asZ (.int .u64 0) O<|nZ<|qZ<|af<|mvZ (iZ i) O<|mvZ (ae a) O<|aa<|aF aR O<|aa<|a9 O O<|nZ<|cZ h O (λhb h=>?_) (λhb h=>?_)
 ·exact af<|mvZ (ae a) O<|mvZ (iZ i) O<|tkZ h (λhg h=>aa<|aM aR aX dZ (λ_=>O) O O hg<|aa<|aN aX cH O O (v:=.int .u32 (at' a i)) O<|aa<|bo bN bU O<|asZ (.int .u64<|IntKind.wrap .u64<|at' a i) O<|aC<|gv1 hrg<|hQ _ h)
 exact kZ<|af<|asZ (.int .u64 0) O<|aC<|gv1 hrg<|hQ _ h
theorem da {a:List Int} {b:List Int} {Q:List Int->Prop} (h:cQ a b Q) (hQ:∀r1,Q r1->R (ae r1) S) :
  Ctr Tryz.prog 112 [ae a,ae b] S R:=by
 refine aK Tryz.func112 rfl Tryz.ntmps112 Tryz.results112 krZ (λrg hrg=>?_)
 refine af<|asZ .nil O<|aW<|mvZ (ae a) O<|aa<|aF aR O<|mvZ (ae b) O<|aa<|aF aR O<|tkZ h (λhg h=>aa<|aD O O hg<|tkZ h (λhg1 h=>aa<|aD O O hg1<|tkZ h (λhg2 h=>wZ rg<|g_ aR dU cL (enc:=AV.int .u32) (z':=0) bR (kk:=1) O O O hg2 (λg1=>asZ (.sl 1 rg 17 g1 0<|Int.toNat<|((a.length:Int)+(b.length:Int))+1) O (nZ<|qZ<|af<|mvZ (ae a) O<|aa<|aF aR O<|mvZ (iZ 0) O<|nZ<|bZ<|lpZ h (λy=>aQ [(1,ae b),(5,.sl 1 rg 17 g1 0 y.2.length),(18,ae a),(19,iZ (a.length:Int)),(20,iZ y.1)]) (λy=>stL S rg [(17,.arr 1 (List.map (AV.int .u32) y.2),g1)]) (an (fZ<|fc (VW.slen lzZ)<|fZ<|fZ<|fZ<|fn)<|sc O<|sn) (λy _ h=>?_))))))
 obtain⟨x,out⟩:=y
 refine af<|aa<|a9 O O<|nZ<|qZ<|cZ h O (λhb h=>?_) (λhb h=>?_)
 ·refine kZ<|qZ<|bZ<|af<|mvZ (iZ x) O<|tkZ h (λhg3 h=>aa<|aM aR aX dZ (λ_=>O) O O hg3<|aa<|aN aX cH O O (v:=.int .u32 (at' a x)) O<|asZ (iZ x) O<|asZ (.int .u32<|at' a x) O<|aW<|asZ (.int .u64 0) O<|aW<|mvZ (ae b) O<|aa<|aF aR O<|tkZ h (λhg4 h=>aa<|aD O O hg4<|mvZ (iZ 0) O<|nZ<|bZ<|lpZ h (λy=>aQ [(1,ae b),(5,.sl 1 rg 17 g1 0 y.2.2.length),(6,iZ x),(7,.int .u32 (at' a x)),(8,.int .u64 y.1),(18,ae a),(19,iZ (a.length:Int)),(20,iZ x),(27,iZ ((b.length:Int)+1)),(28,iZ y.2.1)]) (λy=>stL S rg [(17,.arr 1 (List.map (AV.int .u32) y.2.2),g1)]) (an (aA<|aA<|fZ<|fZ<|fn)<|sc O<|sn) (λy _ h=>?_)))
  obtain⟨carry,x1,out1⟩:=y
  refine af<|aa<|a9 O O<|nZ<|qZ<|cZ h O (λhb1 h=>?_) (λhb1 h=>?_)
  ·refine kZ<|qZ<|bZ<|af<|mvZ (iZ x1) O<|asZ (iZ x1) O<|nZ<|qZ ?_
   obtain⟨r,hc,h⟩:=h
   refine tkZ h (λhg5 h=>tkZ h (λhi h=>Vc.drawn' bx rg (fp [(4,pc (.int .u64 r))]) krZ<|dP O O<|au (v:=.int .u32 (at' a x)) O<|dP O O<|bo bN bU O<|dP O O<|au (v:=ae b) O<|dP O O<|au (v:=iZ x1) O<|dC (vs:=[ae b,iZ x1]) O (vZ<|vZ<|vn) (λ_=>bz hc (λ_ hr=>⟨by rw[hr],rfl⟩)) O<|dP O O<|sv O O<|dP O O<|au (v:=.sl 1 rg 17 g1 0 out1.length) O<|dP O O<|au (v:=iZ x) O<|dP O O<|au (v:=iZ x1) O<|dP O O<|aD O O hg5<|dP O O<|bA aR aX dZ O O hi<|dL (E:=([(rg,17)],[])) O O (by simp) (cfn) (cI (aZ 17 O) aX cH O (cT hi lzZ) O (v:=.int .u32 (at' out1<|x+x1)) O (dP O O<|bo bN bU O<|dP O O<|jD O O<|dP O O<|au (v:=.int .u64 carry) O<|dP O O<|jD O O<|dP O O<|aE (v:=.int .u64 (IntKind.wrap .u64<|(IntKind.wrap .u64<|(IntKind.wrap .u64<|(IntKind.wrap .u64<|at' a x)*r)+(IntKind.wrap .u64<|at' out1<|x+x1))+carry)) O (dN<|af<|mvZ (.sl 1 rg 17 g1 0 out1.length) O<|mvZ (iZ x) O<|mvZ (iZ x1) O<|tkZ h (λhg6 h=>aa<|aD O O hg6<|mvZ (.int .u64<|IntKind.wrap .u64<|(IntKind.wrap .u64<|(IntKind.wrap .u64<|(IntKind.wrap .u64<|at' a x)*r)+(IntKind.wrap .u64<|at' out1<|x+x1))+carry) O (aa<|bo bU bN O<|tkZ h (λhi1 h=>aa<|bA aR aX dZ O O hi1 ?_))))))))
   exact aa<|b7 (aZ 17 O) aX dZ (x':=(IntKind.wrap .u32<|IntKind.wrap .u64<|(IntKind.wrap .u64<|(IntKind.wrap .u64<|(IntKind.wrap .u64<|at' a x)*r)+(IntKind.wrap .u64<|at' out1<|x+x1))+carry)) (λ_=>O) O O (cT hi1 lzZ) O O aT<|nZ<|rZ<|mvZ (.int .u64<|IntKind.wrap .u64<|(IntKind.wrap .u64<|(IntKind.wrap .u64<|(IntKind.wrap .u64<|at' a x)*r)+(IntKind.wrap .u64<|at' out1<|x+x1))+carry) O (aa<|e_ O O dZ<|stZ h (λcarry1 hs h=>wZ rg<|aE (v:=.int .u64 carry1) (by subst hs;rfl)<|nZ<|rZ<|tkZ h (λhg7 h=>aa<|aD O O hg7<|mvZ (iZ<|x1+1) O<|nZ<|⟨(carry1,(x1+1),(cg out1 (x+x1)<|IntKind.wrap .u32<|IntKind.wrap .u64<|(IntKind.wrap .u64<|(IntKind.wrap .u64<|(IntKind.wrap .u64<|at' a x)*r)+(IntKind.wrap .u64<|at' out1<|x+x1))+carry)),(an (fZ<|fc (VW.slen lzZ)<|aA<|aA<|fn)<|sc O<|sn),h⟩)))
  exact xsZ<|rZ<|tkZ h (λhg8 h=>aa<|aD O O hg8<|mvZ (iZ<|x+1) O<|nZ<|⟨((x+1),out1),(an (aA<|fZ<|fn)<|sc O<|sn),h⟩)
 exact xsZ<|af<|mvZ (.sl 1 rg 17 g1 0 out.length) O<|ff (bh (k:=17) (xs:=List.map (AV.int .u32) out) O (es:=[(58,ae out)]) (fc (ba O)<|fn) (m:=[])<|sn)<|aa<|clZ O<|ca h λr1 h=>asZ (ae r1) O<|aC<|gv1 hrg<|hQ _ h
theorem jr {a:List Int} {b:List Int} {Q:Int->Prop} (h:fG a b Q) (hQ:∀r1,Q r1->R (iZ r1) S) :
  Ctr Tryz.prog 115 [ae a,ae b] S R:=by
 refine aK Tryz.func115 rfl Tryz.ntmps115 Tryz.results115 krZ (λrg hrg=>?_)
 refine af<|asZ (iZ 0) O<|nZ<|qZ<|af<|mvZ (ae a) O<|aa<|aF aR O<|mvZ (ae b) O<|aa<|aF aR O<|aa<|sw O O<|tkZ h (λhg h=>aa<|bt O O hg<|stZ h (λi hs h=>wZ rg<|aE (v:=iZ i) (by subst hs;rfl)<|nZ<|bZ<|lpZ h (λy=>aQ [(0,ae a),(1,ae b),(5,iZ y)]) (λy=>stL S rg []) (an (fZ<|fZ<|fZ<|fn)<|sn) (λi1 _ h=>qZ<|af<|mvZ (iZ i1) O<|aa<|ey O O<|nZ<|cZ h O (λhb h=>?_) (λhb h=>?_))))
 ·refine kZ<|qZ<|bZ<|qZ<|af<|mvZ (ae a) O<|mvZ (iZ i1) O<|aa<|clZ O<|bz h λr h=>mvZ (ae b) O<|mvZ (iZ i1) O<|aa<|clZ O<|bz h λr1 h=>aa<|a9 O O<|nZ<|cZ h O (λhb1 h=>?_) (λhb1 h=>?_)
  ·exact af<|asZ (iZ<|-1) O<|aC<|gv1 hrg<|hQ _ h
  refine kZ<|af<|mvZ (ae a) O<|mvZ (iZ i1) O<|aa<|clZ O<|bz h λr2 h=>mvZ (ae b) O<|mvZ (iZ i1) O<|aa<|clZ O<|bz h λr3 h=>aa<|dr O O<|nZ<|cZ h O (λhb2 h=>?_) (λhb2 h=>?_)
  ·exact af<|asZ (iZ 1) O<|aC<|gv1 hrg<|hQ _ h
  exact kZ<|rZ<|mvZ (iZ i1) O<|tkZ h (λhg1 h=>aa<|bt O O hg1<|asZ (iZ<|i1-1) O<|nZ<|⟨(i1-1),(an (fZ<|fZ<|fZ<|fn)<|sn),h⟩)
 exact xsZ<|af<|asZ (iZ 0) O<|aC<|gv1 hrg<|hQ _ h
theorem jp {a:List Int} {b:List Int} {Q:List Int->Int->Prop} (h:gN a b Q) (hQ:∀r1 r2,Q r1 r2->R (.tuple [ae r1,iZ r2]) S) :
  Ctr Tryz.prog 116 [ae a,ae b] S R:=by
 refine aK Tryz.func116 rfl Tryz.ntmps116 Tryz.results116 krZ (λrg hrg=>?_)
 refine af<|asZ .nil O<|asZ (iZ 0) O<|nZ<|qZ<|af<|mvZ (ae a) O<|mvZ (ae b) O<|aa<|clZ O<|jr h λr h=>aa<|a9 O O<|nZ<|cZ h O (λhb h=>?_) (λhb h=>?_)
 ·exact af<|asZ .nil O<|asZ (iZ 3) O<|aC<|aw (v:=.nil) O<|aw (v:=iZ 3) O<|aG<|aJ hrg (VW.tupL<|vl' (VW.nilL)<|vZ<|vn)<|hQ _ _ h
 refine kZ<|af<|asZ .nil O<|aW<|asZ (.int .u64 0) O<|nZ<|qZ<|af<|mvZ (ae a) O<|aa<|aF aR O<|mvZ (iZ 0) O<|nZ<|bZ<|Vc.mat 6 32 1 O dZ (λg1=>lgZ h g1 (λy=>aQ [(0,ae a),(1,ae b),(6,.sl 1 rg 32 y.2 0 y.1.2.2.length),(7,.int .u64 y.1.1),(15,iZ (a.length:Int)),(16,iZ y.1.2.1)]) (λy=>stL S rg [(32,.arr 1 (List.map (AV.int .u32) y.1.2.2),y.2)]) (an (fZ<|fZ<|fc (VW.slen lzZ)<|fZ<|fZ<|fZ<|fn)<|sc O<|sn) (λy _ h=>?_))
 obtain⟨⟨borrow,x,out⟩,g2⟩:=y
 refine af<|aa<|a9 O O<|nZ<|qZ<|cZ h O (λhb1 h=>?_) (λhb1 h=>?_)
 ·exact kZ<|qZ<|bZ<|af<|mvZ (iZ x) O<|asZ (iZ x) O<|aW<|mvZ (ae a) O<|mvZ (iZ x) O<|aa<|clZ O<|bz h λr1 h=>mvZ (ae b) O<|mvZ (iZ x) O<|aa<|clZ O<|bz h λr2 h=>aa<|lD O O<|mvZ (.int .u64 borrow) O<|aa<|lD O O<|stZ h (λs hs h=>wZ rg<|aE (v:=.int .u64 s) (by subst hs;rfl)<|aW<|mvZ (.sl 1 rg 32 g2 0 out.length) O<|mvZ (.int .u64 s) O<|aa<|bo bU bN O<|wZ rg<|a8 aR cL bR (es:=[.int .u32 (IntKind.wrap .u32 s)]) O (kk:=1) O O O O O O (λg3=>tkZ h (λhg h=>wZ rg<|bH aR dU cL bR (es:=out) (xs:=[(IntKind.wrap .u32 s)]) (enc:=AV.int .u32) (aZ 32 O) lzZ (bj (aZ 31 O) lzZ) (kk:=1) O O (λ_=>O) (λ_=>O) hg O (λ_=>aT) (λg4=>asZ (.sl 1 rg 32 g4 0<|(out++[(IntKind.wrap .u32 s)]).length) O<|nZ<|rZ<|mvZ (.int .u64 s) O<|aa<|e_ O O dZ<|asZ (.int .u64<|s / 2^(Int.toNat 63)) O<|nZ<|rZ<|tkZ h (λhg1 h=>aa<|aD O O hg1<|mvZ (iZ<|x+1) O<|nZ<|⟨(((s / 2^(Int.toNat 63)),(x+1),(out++[(IntKind.wrap .u32 s)])),g4),(an (aA<|fZ<|fZ<|fn)<|sc O<|sn),h⟩)))))
 exact xsZ<|af<|mvZ (.sl 1 rg 32 g2 0 out.length) O<|ff (bh (k:=32) (xs:=List.map (AV.int .u32) out) O (es:=[(36,ae out)]) (fc (ba O)<|fn) (m:=[])<|sn)<|aa<|clZ O<|ca h λr3 h=>asZ (ae r3) O<|asZ (iZ 0) O<|aC<|aw (v:=ae r3) O<|aw (v:=iZ 0) O<|aG<|aJ hrg (VW.tupL<|vZ<|vZ<|vn)<|hQ _ _ h
theorem my {a:List Int} {s:Int} {Q:List Int->Prop} (h:jT a s Q) (hQ:∀r1,Q r1->R (ae r1) S) :
  Ctr Tryz.prog 257 [ae a,iZ s] S R:=by
 refine aK Tryz.func257 rfl Tryz.ntmps257 Tryz.results257 krZ (λrg hrg=>?_)
 refine af<|asZ .nil O<|aW<|asZ .nil O<|aW<|asZ (.int .u64 0) O<|nZ<|qZ<|af<|mvZ (ae a) O<|aa<|aF aR O<|mvZ (iZ 0) O<|nZ<|bZ<|Vc.mat 5 25 1 O dZ (λg1=>lgZ h g1 (λy=>aQ [(1,iZ s),(5,.sl 1 rg 25 y.2 0 y.1.2.2.length),(6,.int .u64 y.1.1),(9,ae a),(10,iZ (a.length:Int)),(11,iZ y.1.2.1)]) (λy=>stL S rg [(25,.arr 1 (List.map (AV.int .u32) y.1.2.2),y.2)]) (an (fZ<|fc (VW.slen lzZ)<|aA<|fn)<|sc O<|sn) (λy _ h=>?_))
 obtain⟨⟨carry,x,out⟩,g2⟩:=y
 refine af<|aa<|a9 O O<|nZ<|qZ<|cZ h O (λhb h=>?_) (λhb h=>?_)
 ·exact kZ<|qZ<|bZ<|af<|tkZ h (λhg h=>aa<|aM aR aX dZ (λ_=>O) O O hg<|aa<|aN aX cH O O (v:=.int .u32 (at' a x)) O<|asZ (.int .u32<|at' a x) O<|aW<|mvZ (.int .u64 carry) O<|mvZ (.int .u32<|at' a x) O<|aa<|bo bN bU O<|mvZ (iZ s) O<|tkZ h (λhg1 h=>aa<|kC O O hg1<|aa<|rb O O<|stZ h (λcarry1 hs h=>wZ rg<|aE (v:=.int .u64 carry1) (by subst hs;rfl)<|aW<|mvZ (.sl 1 rg 25 g2 0 out.length) O<|mvZ (.int .u64 carry1) O<|aa<|bo bU bN O<|wZ rg<|a8 aR cL bR (es:=[.int .u32 (IntKind.wrap .u32 carry1)]) O (kk:=1) O O O O O O (λg3=>tkZ h (λhg2 h=>wZ rg<|bH aR dU cL bR (es:=out) (xs:=[(IntKind.wrap .u32 carry1)]) (enc:=AV.int .u32) (aZ 25 O) lzZ (bj (aZ 24 O) lzZ) (kk:=1) O O (λ_=>O) (λ_=>O) hg2 O (λ_=>aT) (λg4=>asZ (.sl 1 rg 25 g4 0<|(out++[(IntKind.wrap .u32 carry1)]).length) O<|nZ<|rZ<|mvZ (.int .u64 carry1) O<|aa<|e_ O O dZ<|asZ (.int .u64<|carry1 / 2^(Int.toNat 32)) O<|nZ<|rZ<|tkZ h (λhg3 h=>aa<|aD O O hg3<|mvZ (iZ<|x+1) O<|nZ<|⟨(((carry1 / 2^(Int.toNat 32)),(x+1),(out++[(IntKind.wrap .u32 carry1)])),g4),(an (aA<|fZ<|fZ<|fn)<|sc O<|sn),h⟩)))))))
 exact xsZ<|af<|mvZ (.sl 1 rg 25 g2 0 out.length) O<|mvZ (.int .u64 carry) O<|aa<|bo bU bN O<|wZ rg<|a8 aR cL bR (es:=[.int .u32 (IntKind.wrap .u32 carry)]) O (kk:=1) O O O O O O (λg5=>tkZ h (λhg4 h=>wZ rg<|bH aR dU cL bR (es:=out) (xs:=[(IntKind.wrap .u32 carry)]) (enc:=AV.int .u32) (aZ 25 O) lzZ (bj (aZ 32 O) lzZ) (kk:=1) O O (λ_=>O) (λ_=>O) hg4 O (λ_=>aT) (λg6=>ff (bh (k:=25) (xs:=List.map (AV.int .u32) (out++[(IntKind.wrap .u32 carry)])) O (es:=[(33,ae (out++[(IntKind.wrap .u32 carry)]))]) (fc (ba O)<|fn) (m:=[]) (sn)) (aa<|clZ O<|ca h λr h=>asZ (ae r) O<|aC<|gv1 hrg<|hQ _ h))))
theorem o6 {a:List Int} {s:Int} {Q:List Int->Prop} (h:io a s Q) (hQ:∀r1,Q r1->R (ae r1) S) :
  Ctr Tryz.prog 258 [ae a,iZ s] S R:=by
 refine aK Tryz.func258 rfl Tryz.ntmps258 Tryz.results258 krZ (λrg hrg=>?_)
 refine af<|asZ .nil O<|aW<|asZ .nil O<|nZ<|qZ<|af<|mvZ (ae a) O<|aa<|aF aR O<|mvZ (iZ 0) O<|nZ<|bZ<|Vc.mat 5 26 1 O dZ (λg1=>lgZ h g1 (λy=>aQ [(0,ae a),(1,iZ s),(5,.sl 1 rg 26 y.2 0 y.1.2.length),(8,iZ (a.length:Int)),(9,iZ y.1.1)]) (λy=>stL S rg [(26,.arr 1 (List.map (AV.int .u32) y.1.2),y.2)]) (an (fZ<|fZ<|fc (VW.slen lzZ)<|fZ<|fZ<|fn)<|sc O<|sn) (λy _ h=>?_))
 obtain⟨⟨x,out⟩,g2⟩:=y
 refine af<|aa<|a9 O O<|nZ<|qZ<|cZ h O (λhb h=>?_) (λhb h=>?_)
 ·exact kZ<|qZ<|bZ<|af<|mvZ (iZ x) O<|asZ (iZ x) O<|nZ<|rZ<|mvZ (.sl 1 rg 26 g2 0 out.length) O<|mvZ (ae a) O<|mvZ (iZ x) O<|aa<|clZ O<|bz h λr h=>mvZ (ae a) O<|mvZ (iZ x) O<|tkZ h (λhg h=>aa<|aD O O hg<|aa<|clZ O<|bz h λr1 h=>aa<|kC O O dZ<|aa<|rb O O<|mvZ (iZ s) O<|tkZ h (λhg1 h=>aa<|e_ O O hg1<|aa<|bo bU bN O<|wZ rg<|a8 aR cL bR (es:=[.int .u32 (IntKind.wrap .u32<|(bits .or .u64 r<|IntKind.wrap .u64<|r1*2^(Int.toNat 32)) / 2^(Int.toNat s))]) O (kk:=1) O O O O O O (λg3=>tkZ h (λhg2 h=>wZ rg<|bH aR dU cL bR (es:=out) (xs:=[(IntKind.wrap .u32<|(bits .or .u64 r<|IntKind.wrap .u64<|r1*2^(Int.toNat 32)) / 2^(Int.toNat s))]) (enc:=AV.int .u32) (aZ 26 O) lzZ (bj (aZ 25 O) lzZ) (kk:=1) O O (λ_=>O) (λ_=>O) hg2 O (λ_=>aT) (λg4=>asZ (.sl 1 rg 26 g4 0<|(out++[(IntKind.wrap .u32<|(bits .or .u64 r<|IntKind.wrap .u64<|r1*2^(Int.toNat 32)) / 2^(Int.toNat s))]).length) O (nZ<|rZ<|tkZ h (λhg3 h=>aa<|aD O O hg3<|mvZ (iZ<|x+1) O<|nZ<|⟨(((x+1),(out++[(IntKind.wrap .u32<|(bits .or .u64 r<|IntKind.wrap .u64<|r1*2^(Int.toNat 32)) / 2^(Int.toNat s))])),g4),(an (aA<|fZ<|fn)<|sc O<|sn),h⟩)))))))
 exact xsZ<|af<|mvZ (.sl 1 rg 26 g2 0 out.length) O<|ff (bh (k:=26) (xs:=List.map (AV.int .u32) out) O (es:=[(28,ae out)]) (fc (ba O)<|fn) (m:=[])<|sn)<|aa<|clZ O<|ca h λr2 h=>asZ (ae r2) O<|aC<|gv1 hrg<|hQ _ h
theorem jq {a:List Int} {b:List Int} {Q:List Int->List Int->Int->Prop} (h:gO a b Q) (hQ:∀r1 r2 r3,Q r1 r2 r3->R (.tuple [ae r1,ae r2,iZ r3]) S) :
  Ctr Tryz.prog 191 [ae a,ae b] S R:=by
 refine aK Tryz.func191 rfl Tryz.ntmps191 Tryz.results191 krZ (λrg hrg=>?_)
 refine af<|asZ .nil O<|asZ .nil O<|asZ (iZ 0) O<|aW<|mvZ (ae b) O<|aa<|clZ O<|ca h λb1 h=>asZ (ae b1) O<|aW<|mvZ (ae b1) O<|aa<|aF aR O<|asZ (iZ (b1.length:Int)) O<|nZ<|qZ<|af<|mvZ (iZ (b1.length:Int)) O<|aa<|bJ O O<|nZ<|cZ h O (λhb h=>?_) (λhb h=>?_)
 ·exact af<|asZ .nil O<|asZ .nil O<|asZ (iZ 8) O<|aC<|aw (v:=.nil) O<|aw (v:=.nil) O<|aw (v:=iZ 8) O<|aG<|aJ hrg (VW.tupL<|vl' (VW.nilL)<|vl' (VW.nilL)<|vZ<|vn)<|hQ _ _ _ h
 refine kZ<|af<|asZ (iZ 0) O<|nZ<|qZ<|bZ<|lpZ h (λy=>aQ [(0,ae a),(1,ae b1),(7,iZ (b1.length:Int)),(8,iZ y)]) (λy=>stL S rg []) (an (aA<|fn)<|sn) (λs _ h=>qZ<|af<|mvZ (ae b1) O<|mvZ (iZ (b1.length:Int)) O<|tkZ h (λhg h=>aa<|bt O O hg<|tkZ h (λhg1 h=>aa<|aM aR aX dZ (λ_=>O) O O hg1<|aa<|aN aX cH O O (v:=.int .u32 (at' b1<|(b1.length:Int)-1)) O (mvZ (iZ s) O<|tkZ h (λhg2 h=>aa<|kC O O hg2<|aa<|sA O O<|aa<|bJ O O<|nZ<|cZ h O (λhb1 h=>?_) (λhb1 h=>?_))))))
 ·exact kZ<|bZ<|rZ<|mvZ (iZ s) O<|tkZ h (λhg3 h=>aa<|aD O O hg3<|asZ (iZ<|s+1) O<|nZ<|⟨(s+1),(an (aA<|fn)<|sn),h⟩)
 refine xsZ<|af<|mvZ (ae a) O<|mvZ (iZ s) O<|aa<|clZ O<|my h λa1 h=>mvZ (ae b1) O<|mvZ (iZ s) O<|aa<|clZ O<|my h λb2 h=>asZ (ae a1) O<|asZ (ae b2) O<|nZ<|qZ<|tkZ h (λhg4 h=>tkZ h (λhg5 h=>tkZ h (λhg6 h=>tkZ h (λhg7 h=>tkZ h (λhg8 h=>Vc.drawn' bx rg (λ_=>fi) krZ<|dP O O<|au (v:=ae a1) O<|dP O O<|aF aR O<|dL (E:=([],[(rg,39)])) O O (by simp) (cfn) (g_ aR dU cL (enc:=AV.int .u32) (z':=0) bR (kk:=1) O O O hg4 (λg1=>dL (E:=([],[(rg,40)])) O O (by simp) (cfa (by simp[aV])<|cfn) (a8 aR cL bR (es:=[]) O (kk:=1) O O O O O O (λg2=>dP O O<|au (v:=ae a1) O<|dP O O<|au (v:=ae a1) O<|dP O O<|aF aR O<|dP O O<|au (v:=iZ (b1.length:Int)) O<|dP O O<|bt O O hg5<|dP O O<|aD O O hg6<|dP O O<|sw O O<|dP O O<|mD aR aX dZ (λ_=>O) O (l:=(max 0<|((a1.length:Int)-(b1.length:Int))+1)) (h:=(a1.length:Int)) O O hg7 (dL (E:=([],[(rg,40)])) O O (by simp) (cfo krZ<|cfa (by simp[aV])<|cfn) (bH aR dU cL bR (es:=([]:List Int)) (xs:=(f8 a1 (max 0<|((a1.length:Int)-(b1.length:Int))+1) (a1.length:Int))) (enc:=AV.int .u32) (aZ 40 O) lzZ (O) (kk:=1) O O (λ_=>O) (λ_=>O) hg8 O (λ_=>aT) (λg3=>?_))))))))))))
 refine dP O O<|aE (v:=.sl 1 rg 39 g1 0 (Int.toNat (a1.length:Int))) O (dP O O<|aE (v:=.sl 1 rg 40 g3 0 ((([]:List Int)++(f8 a1 (max 0<|((a1.length:Int)-(b1.length:Int))+1) (a1.length:Int))).length)) O (dN<|qZ<|af<|mvZ (ae a1) O<|aa<|aF aR O<|mvZ (iZ (b1.length:Int)) O<|tkZ h (λhg9 h=>aa<|bt O O hg9<|asZ (iZ<|(a1.length:Int)-(b1.length:Int)) O<|nZ<|bZ<|xU (bh (k:=40) (xs:=List.map (AV.int .u32) (([]:List Int)++(f8 a1 (max 0<|((a1.length:Int)-(b1.length:Int))+1) (a1.length:Int)))) O (es:=[(0,ae a1),(1,ae b2),(7,iZ (b1.length:Int)),(8,iZ s),(9,.sl 1 rg 39 g1 0 (Int.toNat (a1.length:Int))),(10,ae (([]:List Int)++(f8 a1 (max 0<|((a1.length:Int)-(b1.length:Int))+1) (a1.length:Int)))),(11,iZ ((a1.length:Int)-(b1.length:Int)))]) (aA<|fc (dR O)<|fc (ba O)<|fZ<|fn) (m:=[(39,.arr 1 (List.map (AV.int .u32)<|fh (a1.length:Int) 0),g1)]) (sc O<|sn)) (lpZ h (λy=>aQ [(0,ae a1),(1,ae b2),(7,iZ (b1.length:Int)),(8,iZ s),(9,.sl 1 rg 39 g1 0 y.2.2.length),(10,ae y.1),(11,iZ y.2.1)]) (λy=>stL S rg [(39,.arr 1 (List.map (AV.int .u32) y.2.2),g1)]) (an (aA<|fc (VW.slen lzZ)<|fZ<|fZ<|fn)<|sc O<|sn) (λy _ h=>?_)))))
 obtain⟨r,i,q⟩:=y
 refine qZ<|af<|mvZ (iZ i) O<|aa<|ey O O<|nZ<|cZ h O (λhb2 h=>?_) (λhb2 h=>?_)
 ·refine kZ<|qZ<|bZ<|af<|mvZ (ae a1) O<|mvZ (iZ i) O<|tkZ h (λhg10 h=>aa<|aM aR aX dZ (λ_=>O) O O hg10<|aa<|aN aX cH O O (v:=.int .u32 (at' a1 i)) O<|wZ rg<|a8 aR cL bR (es:=[.int .u32 (at' a1 i)]) O (kk:=1) O O O O O O (λg4=>mvZ (ae r) O<|tkZ h (λhg11 h=>wZ rg<|bH aR dU cL bR (es:=[(at' a1 i)]) (xs:=r) (enc:=AV.int .u32) (aZ 62 O) lzZ (O) (kk:=1) O O (λ_=>O) (λ_=>O) hg11 O (λ_=>aT) (λg5=>ff (bh (k:=62) (xs:=List.map (AV.int .u32) ([(at' a1 i)]++r)) O (es:=[(0,ae a1),(1,ae b2),(7,iZ (b1.length:Int)),(8,iZ s),(9,.sl 1 rg 39 g1 0 q.length),(11,iZ i),(64,ae ([(at' a1 i)]++r))]) (aA<|fc (dR O)<|fZ<|fc (ba O)<|fn) (m:=[(39,.arr 1 (List.map (AV.int .u32) q),g1)]) (sc O<|sn)) (aa<|clZ O<|ca h λr1 h=>asZ (ae r1) O<|aW<|mvZ (ae r1) O<|mvZ (iZ (b1.length:Int)) O<|aa<|clZ O<|bz h λr2 h=>aa<|kC O O dZ<|mvZ (ae r1) O<|mvZ (iZ (b1.length:Int)) O<|tkZ h (λhg12 h=>aa<|bt O O hg12<|aa<|clZ O<|bz h λr3 h=>aa<|rb O O<|mvZ (ae b2) O<|mvZ (iZ (b1.length:Int)) O<|tkZ h (λhg13 h=>aa<|bt O O hg13<|aa<|clZ O<|bz h λr4 h=>tkZ h (λhg14 h=>aa<|t8 O O hg14<|aa<|yW O O<|stZ h (λguess hs h=>?_)))))))))
  refine wZ rg<|aE (v:=.int .u64 guess) (by subst hs;rfl)<|aW<|mvZ (ae b2) O<|mvZ (.int .u64 guess) O<|aa<|bo bU bN O<|wZ rg<|a8 aR cL bR (es:=[.int .u32 (IntKind.wrap .u32 guess)]) O (kk:=1) O O O O O O (λg6=>ff (bh (k:=84) (xs:=List.map (AV.int .u32) [(IntKind.wrap .u32 guess)]) O (es:=[(0,ae a1),(1,ae b2),(7,iZ (b1.length:Int)),(8,iZ s),(9,.sl 1 rg 39 g1 0 q.length),(10,ae r1),(11,iZ i),(12,.int .u64 guess),(81,ae b2),(84,ae [(IntKind.wrap .u32 guess)])]) (aA<|fc (dR O)<|aA<|fc (ba O)<|fn) (m:=[(39,.arr 1 (List.map (AV.int .u32) q),g1)]) (sc O<|sn)) (aa<|clZ O<|da h λp h=>asZ (ae p) O<|nZ<|qZ<|bZ<|lpZ h (λy=>aQ [(0,ae a1),(1,ae b2),(7,iZ (b1.length:Int)),(8,iZ s),(9,.sl 1 rg 39 g1 0 q.length),(10,ae r1),(11,iZ i),(12,.int .u64 y.1),(13,ae y.2)]) (λy=>stL S rg [(39,.arr 1 (List.map (AV.int .u32) q),g1)]) (an (aA<|aA<|fZ<|fn)<|sc O<|sn) (λy _ h=>?_)))
  obtain⟨guess1,p1⟩:=y
  refine qZ<|af<|mvZ (ae p1) O<|mvZ (ae r1) O<|aa<|clZ O<|jr h λr5 h=>aa<|dr O O<|nZ<|cZ h O (λhb3 h=>?_) (λhb3 h=>?_)
  ·exact kZ<|bZ<|af<|mvZ (.int .u64 guess1) O<|aa<|lD O O<|asZ (.int .u64<|IntKind.wrap .u64<|guess1-1) O<|nZ<|rZ<|mvZ (ae p1) O<|mvZ (ae b2) O<|aa<|clZ O<|jp h λr6 r7 h=>mvZ (.tuple [ae r6,iZ r7]) O<|aa<|ah (v:=ae r6) O O O<|aa<|ah (v:=iZ r7) O O O<|asZ (ae r6) O<|nZ<|⟨((IntKind.wrap .u64<|guess1-1),r6),(an (aA<|aA<|fZ<|fn)<|sc O<|sn),h⟩
  exact xsZ<|af<|mvZ (ae r1) O<|mvZ (ae p1) O<|aa<|clZ O<|jp h λr8 r9 h=>mvZ (.tuple [ae r8,iZ r9]) O<|aa<|ah (v:=ae r8) O O O<|aa<|ah (v:=iZ r9) O O O<|asZ (ae r8) O<|nZ<|rZ<|mvZ (.sl 1 rg 39 g1 0 q.length) O<|mvZ (iZ i) O<|mvZ (.int .u64 guess1) O<|aa<|bo bU bN O<|tkZ h (λhi h=>aa<|bA aR aX dZ O O hi<|aa<|b7 (aZ 39 O) aX dZ (x':=(IntKind.wrap .u32 guess1)) (λ_=>O) O O (cT hi lzZ) O O aT<|nZ<|rZ<|mvZ (iZ i) O<|tkZ h (λhg15 h=>aa<|bt O O hg15<|asZ (iZ<|i-1) O<|nZ<|⟨(r8,(i-1),(cg q i<|IntKind.wrap .u32 guess1)),(an (aA<|fc (VW.slen lzZ)<|fZ<|fZ<|fn)<|sc O<|sn),h⟩))
 exact xsZ<|af<|mvZ (.sl 1 rg 39 g1 0 q.length) O<|ff (bh (k:=39) (xs:=List.map (AV.int .u32) q) O (es:=[(8,iZ s),(10,ae r),(109,ae q)]) (fZ<|fZ<|fc (ba O)<|fn) (m:=[]) (sn)) (aa<|clZ O<|ca h λr10 h=>mvZ (ae r) O<|mvZ (iZ s) O<|aa<|clZ O<|o6 h λr11 h=>asZ (ae r10) O<|asZ (ae r11) O<|asZ (iZ 0) O<|aC<|aw (v:=ae r10) O<|aw (v:=ae r11) O<|aw (v:=iZ 0) O<|aG<|aJ hrg (VW.tupL<|vZ<|vZ<|vZ<|vn)<|hQ _ _ _ h)
theorem lC {a:List Int} {b:List Int} {Q:List Int->Prop} (h:i_ a b Q) (hQ:∀r1,Q r1->R (ae r1) S) :
  Ctr Tryz.prog 190 [ae a,ae b] S R:=by
 refine aK Tryz.func190 rfl Tryz.ntmps190 Tryz.results190 krZ (λrg hrg=>?_)
 refine af<|asZ .nil O<|aW<|mvZ (ae a) O<|aa<|clZ O<|ca h λa1 h=>mvZ (ae b) O<|aa<|clZ O<|ca h λb1 h=>asZ (ae a1) O<|asZ (ae b1) O<|nZ<|qZ<|bZ<|lpZ h (λy=>aQ [(0,ae y.1),(1,ae y.2)]) (λy=>stL S rg []) (an (fZ<|fZ<|fn)<|sn) (λy _ h=>?_)
 obtain⟨a2,b2⟩:=y
 refine qZ<|af<|mvZ (ae b2) O<|aa<|aF aR O<|aa<|dr O O<|nZ<|cZ h O (λhb h=>?_) (λhb h=>?_)
 ·exact kZ<|bZ<|af<|mvZ (ae a2) O<|mvZ (ae b2) O<|aa<|clZ O<|jq h λr r1 r2 h=>mvZ (.tuple [ae r,ae r1,iZ r2]) O<|aa<|ah (v:=ae r) O O O<|aa<|ah (v:=ae r1) O O O<|aa<|ah (v:=iZ r2) O O O<|asZ (ae r) O<|asZ (ae r1) O<|asZ (iZ r2) O<|nZ<|rZ<|mvZ (ae b2) O<|mvZ (ae r1) O<|asZ (ae b2) O<|asZ (ae r1) O<|nZ<|⟨(b2,r1),(an (fZ<|fZ<|fn)<|sn),h⟩
 exact xsZ<|af<|mvZ (ae a2) O<|asZ (ae a2) O<|aC<|gv1 hrg<|hQ _ h
theorem qb {a:List Int} {b:List Int} {Q:List Int->Prop} (h:ja a b Q) (hQ:∀r1,Q r1->R (ae r1) S) :
  Ctr Tryz.prog 114 [ae a,ae b] S R:=by
 refine aK Tryz.func114 rfl Tryz.ntmps114 Tryz.results114 krZ (λrg hrg=>?_)
 refine af<|asZ .nil O<|aW<|asZ .nil O<|aW<|asZ (.int .u64 0) O<|nZ<|qZ<|af<|mvZ (ae a) O<|aa<|aF aR O<|mvZ (ae b) O<|aa<|aF aR O<|aa<|sw O O<|tkZ h (λhg h=>aa<|aD O O hg<|mvZ (iZ 0) O<|nZ<|bZ<|Vc.mat 5 31 1 O dZ (λg1=>lgZ h g1 (λy=>aQ [(0,ae a),(1,ae b),(5,.sl 1 rg 31 y.2 0 y.1.2.2.length),(6,.int .u64 y.1.1),(14,iZ ((max (a.length:Int) (b.length:Int))+1)),(15,iZ y.1.2.1)]) (λy=>stL S rg [(31,.arr 1 (List.map (AV.int .u32) y.1.2.2),y.2)]) (an (fZ<|fZ<|fc (VW.slen lzZ)<|fZ<|fZ<|fZ<|fn)<|sc O<|sn) (λy _ h=>?_)))
 obtain⟨⟨carry,x,out⟩,g2⟩:=y
 refine af<|aa<|a9 O O<|nZ<|qZ<|cZ h O (λhb h=>?_) (λhb h=>?_)
 ·exact kZ<|qZ<|bZ<|af<|mvZ (iZ x) O<|asZ (iZ x) O<|aW<|mvZ (ae a) O<|mvZ (iZ x) O<|aa<|clZ O<|bz h λr h=>mvZ (ae b) O<|mvZ (iZ x) O<|aa<|clZ O<|bz h λr1 h=>aa<|jD O O<|mvZ (.int .u64 carry) O<|aa<|jD O O<|stZ h (λs hs h=>wZ rg<|aE (v:=.int .u64 s) (by subst hs;rfl)<|aW<|mvZ (.sl 1 rg 31 g2 0 out.length) O<|mvZ (.int .u64 s) O<|aa<|bo bU bN O<|wZ rg<|a8 aR cL bR (es:=[.int .u32 (IntKind.wrap .u32 s)]) O (kk:=1) O O O O O O (λg3=>tkZ h (λhg1 h=>wZ rg<|bH aR dU cL bR (es:=out) (xs:=[(IntKind.wrap .u32 s)]) (enc:=AV.int .u32) (aZ 31 O) lzZ (bj (aZ 30 O) lzZ) (kk:=1) O O (λ_=>O) (λ_=>O) hg1 O (λ_=>aT) (λg4=>asZ (.sl 1 rg 31 g4 0<|(out++[(IntKind.wrap .u32 s)]).length) O<|nZ<|rZ<|mvZ (.int .u64 s) O<|aa<|e_ O O dZ<|asZ (.int .u64<|s / 2^(Int.toNat 32)) O<|nZ<|rZ<|tkZ h (λhg2 h=>aa<|aD O O hg2<|mvZ (iZ<|x+1) O<|nZ<|⟨(((s / 2^(Int.toNat 32)),(x+1),(out++[(IntKind.wrap .u32 s)])),g4),(an (aA<|fZ<|fZ<|fn)<|sc O<|sn),h⟩)))))
 exact xsZ<|af<|mvZ (.sl 1 rg 31 g2 0 out.length) O<|ff (bh (k:=31) (xs:=List.map (AV.int .u32) out) O (es:=[(35,ae out)]) (fc (ba O)<|fn) (m:=[])<|sn)<|aa<|clZ O<|ca h λr2 h=>asZ (ae r2) O<|aC<|gv1 hrg<|hQ _ h
end Go.Proofs.YtnjgdkfhgmebjaaGreat
namespace Go.Proofs.YtnjgdkfhgmebjaaGreat
open Go.Gg
set_option maxRecDepth 100000
variable {S:St} {R:AV->St->Prop}
theorem gk {Q:List Int->Prop} (h:fU Q) (hQ:∀r1,Q r1->R (ae r1) S) :
  Ctr Tryz.prog 196 [] S R:=by
 refine aK Tryz.func196 rfl Tryz.ntmps196 Tryz.results196 krZ (λrg hrg=>?_)
 exact af<|asZ .nil O<|aW<|wZ rg<|a8 aR cL bR (es:=[.int .u32 1]) O (kk:=1) O O O O O O (λg1=>asZ (.sl 1 rg 1 g1 0<|[1].length) O<|aC<|aw (v:=.sl 1 rg 1 g1 0 ([1].length)) O<|aG<|bk (k:=1) (xs:=List.map (AV.int .u32) [1]) O (v':=ae [1]) (ba O)<|goZ hrg<|hQ _ h)
theorem iL {a:List Int} {Q:Bool->Prop} (h:eX a Q) (hQ:∀r1,Q r1->R (AV.bool r1) S) :
  Ctr Tryz.prog 259 [ae a] S R:=by
 refine aK Tryz.func259 rfl Tryz.ntmps259 Tryz.results259 krZ (λrg hrg=>?_)
 refine af<|asZ (.bool false) O<|aW<|mvZ (ae a) O<|aa<|aF aR O<|aa<|dr O O<|mvZ (.bool<|decide<|0<(a.length:Int)) O<|gtZ h O O (λhb h=>?_) (λhb h=>?_)
 ·exact mvZ (ae a) O<|gTZ O O hb<|mvZ (ae a) O<|gTZ O O hb<|aa<|aF aR O<|gTZ O O hb<|tkZ h (λhg h=>aa<|bt O O hg<|gTZ O O hb<|tkZ h (λhg1 h=>aa<|aM aR aX dZ (λ_=>O) O O hg1<|gTZ O O hb<|aa<|aN aX cH O O (v:=.int .u32 (at' a<|(a.length:Int)-1)) O (gTZ O O hb<|aa<|cG O O<|aa<|aH O hb (v:=.bool ((at' a<|(a.length:Int)-1) != 0)) O (asZ (.bool<|(at' a<|(a.length:Int)-1) != 0) O (aC<|gv1 hrg<|hQ _ h)))))
 exact gFZ O O hb O<|gFZ O O hb O<|gFZ O O hb O<|gFZ O O hb O<|gFZ O O hb O<|gFZ O O hb O<|aa<|aI O hb (v:=.bool false) O<|asZ (.bool false) O<|aC<|gv1 hrg<|hQ _ h
theorem iM {a:GRat} {Q:Bool->Prop} (h:eY a Q) (hQ:∀r1,Q r1->R (AV.bool r1) S) :
  Ctr Tryz.prog 192 [ac a] S R:=by
 refine aK Tryz.func192 rfl Tryz.ntmps192 Tryz.results192 krZ (λrg hrg=>?_)
 refine af<|wZ rg<|bs (v:=ac a) O O (kk:=3) O dZ (λg1=>asZ (.bool false) O<|nZ<|qZ<|jgZ (γ:=Nat) h (λy=>aQ [(1,.ptr rg 1 y.2 0 0),(12,.bool y.1)]) (λy=>stL S rg [(1,.arr 3 [ac a],y.2)]) (λy h=>?_) (λ_ h=>?_))
 ·obtain⟨x,g2⟩:=y
  refine cZ h O (λhb h=>?_) (λhb h=>?_)
  ·exact af<|aa<|aL kI O<|aa<|ag (aZ 1 O) sz4 ag4 O O (v:=.bool a.Neg) O<|aa<|db O<|asZ (.bool<|!a.Neg) O<|aC<|gv1 hrg<|hQ _ h
  refine kZ<|af<|aa<|aL fA O<|aa<|ag (aZ 1 O) fK f_ O O (v:=ae a.Num) O<|aa<|clZ O<|iL h λr h=>mvZ (.bool r) O<|gtZ h O O (λhb1 h=>?_) (λhb1 h=>?_)
  ·refine aa<|aL gu O<|gTZ O O hb1<|aa<|ag (aZ 1 O) fK f_ O O (v:=ae a.Den) O<|gTZ O O hb1<|aa<|clZ O<|iL h λr1 h=>aa<|aH O hb1 (v:=.bool r1) O<|mvZ (.bool r1) O<|gtZ h O O (λhb2 h=>?_) (λhb2 h=>?_)
   ·exact aa<|aL fA O<|gTZ O O hb2<|aa<|ag (aZ 1 O) fK f_ O O (v:=ae a.Num) O<|gTZ O O hb2<|aa<|aL gu O<|gTZ O O hb2<|aa<|ag (aZ 1 O) fK f_ O O (v:=ae a.Den) O<|gTZ O O hb2<|aa<|clZ O<|j5 h λr2 h=>gTZ O O hb2<|aa<|clZ O<|gk h λr3 h=>gTZ O O hb2<|aa<|clZ O<|eg h λr4 h=>gTZ O O hb2<|aa<|bJ O O<|aa<|aH O hb2 (v:=.bool (r4 == 0)) O<|asZ (.bool<|r4 == 0) O<|aC<|gv1 hrg<|hQ _ h
   exact gFZ O O hb2 O<|gFZ O O hb2 O<|gFZ O O hb2 O<|gFZ O O hb2 O<|gFZ O O hb2 O<|gFZ O O hb2 O<|gFZ O O hb2 O<|aa<|aI O hb2 (v:=.bool false) O<|asZ (.bool false) O<|aC<|gv1 hrg<|hQ _ h
  exact gFZ O O hb1 O<|gFZ O O hb1 O<|aa<|aI O hb1 (v:=.bool false) O<|mvZ (.bool false) O<|gFZ O O O O<|gFZ O O O O<|gFZ O O O O<|gFZ O O O O<|gFZ O O O O<|gFZ O O O O<|gFZ O O O O<|gFZ O O O O<|aa<|aI O O (v:=.bool false) O<|asZ (.bool false) O<|aC<|gv1 hrg<|hQ _ h
 refine rZ<|aa<|aL fA O<|aa<|ag (aZ 1 O) fK f_ O O (v:=ae a.Num) O<|aa<|aF aR O<|aa<|bJ O O<|mvZ (.bool<|(a.Num.length:Int) == 0) O<|gtZ h O O (λhb3 h=>?_) (λhb3 h=>?_)
 ·exact aa<|aL gu O<|gTZ O O hb3<|aa<|ag (aZ 1 O) fK f_ O O (v:=ae a.Den) O<|gTZ O O hb3<|aa<|aF aR O<|gTZ O O hb3<|aa<|bJ O O<|aa<|aH O hb3 (v:=.bool ((a.Den.length:Int) == 0)) O (nZ<|⟨(((a.Den.length:Int) == 0),g1),(an (fZ<|fZ<|fn)<|sc O<|sn),h⟩)
 exact gFZ O O hb3 O<|gFZ O O hb3 O<|gFZ O O hb3 O<|aa<|aI O hb3 (v:=.bool false) O<|nZ<|⟨(false,g1),(an (fZ<|fZ<|fn)<|sc O<|sn),h⟩
theorem bV {a:GRat} {Q:Bool->List Int->List Int->Prop} (h:bM a Q) (hQ:∀r1 r2 r3,Q r1 r2 r3->R (.tuple [AV.bool r1,ae r2,ae r3]) S) :
  Ctr Tryz.prog 163 [ac a] S R:=by
 refine aK Tryz.func163 rfl Tryz.ntmps163 Tryz.results163 krZ (λrg hrg=>?_)
 refine af<|wZ rg<|bs (v:=ac a) O O (kk:=3) O dZ (λg1=>asZ (.bool false) O<|asZ .nil O<|asZ .nil O<|nZ<|qZ<|jgZ (γ:=Nat) h (λy=>aQ [(1,.ptr rg 1 y.2 0 0),(13,.bool y.1)]) (λy=>stL S rg [(1,.arr 3 [ac a],y.2)]) (λy h=>?_) (λ_ h=>?_))
 ·obtain⟨x,g2⟩:=y
  refine cZ h O (λhb h=>?_) (λhb h=>?_)
  ·exact af<|aa<|clZ O<|gk h λr h=>asZ (.bool false) O<|asZ .nil O<|asZ (ae r) O<|aC<|aw (v:=.bool false) O<|aw (v:=.nil) O<|aw (v:=ae r) O<|aG<|aJ hrg (VW.tupL<|vZ<|vl' (VW.nilL)<|vZ<|vn)<|hQ _ _ _ h
  exact kZ<|qZ<|Vc.drawn' bx rg (λ_=>fi) krZ<|dP O O<|aL kI O<|dL (E:=([(rg,1)],[])) O O (by simp) (cfn) (ag (aZ 1 O) sz4 ag4 O O (v:=.bool a.Neg) O<|dP O O<|aL fA O<|dL (E:=([(rg,1)],[])) O O (by simp) (cfa (by simp[aV])<|cfn) (ag (aZ 1 O) fK f_ O O (v:=ae a.Num) O<|dP O O<|aL gu O<|dL (E:=([(rg,1)],[])) O O (by simp) (cfa (by simp[aV])<|cfa (by simp[aV])<|cfn) (ag (aZ 1 O) fK f_ O O (v:=ae a.Den) O<|dP O O<|aE (v:=.bool a.Neg) O<|dP O O<|aE (v:=ae a.Num) O<|dP O O<|aE (v:=ae a.Den) O<|dN<|uZ<|aw (v:=.bool a.Neg) O<|aw (v:=ae a.Num) O<|aw (v:=ae a.Den) O<|aG<|aJ hrg (VW.tupL<|vZ<|vZ<|vZ<|vn)<|hQ _ _ _ h)))
 refine rZ<|aa<|am (aZ 1 O) az dZ aY O O (v:=ac a) O<|aa<|clZ O<|iM h λr1 h=>aa<|db O<|mvZ (.bool<|!r1) O<|gfZ h O O (λhb1 h=>?_) (λhb1 h=>?_)
 ·exact aa<|aL fA O<|gTZ O O hb1<|aa<|ag (aZ 1 O) fK f_ O O (v:=ae a.Num) O<|gTZ O O hb1<|aa<|aF aR O<|gTZ O O hb1<|aa<|bJ O O<|aa<|aI O hb1 (v:=.bool ((a.Num.length:Int) == 0)) O (nZ<|⟨(((a.Num.length:Int) == 0),g1),(an (fZ<|fZ<|fn)<|sc O<|sn),h⟩)
 exact gFZ O O hb1 O<|gFZ O O hb1 O<|gFZ O O hb1 O<|aa<|aH O hb1 (v:=.bool true) O<|nZ<|⟨(true,g1),(an (fZ<|fZ<|fn)<|sc O<|sn),h⟩
theorem cz {neg:Bool} {num:List Int} {den:List Int} {Q:GRat->Prop} (h:bX neg num den Q) (hQ:∀r1,Q r1->R (ac r1) S) :
  Ctr Tryz.prog 165 [AV.bool neg,ae num,ae den] S R:=by
 refine aK Tryz.func165 rfl Tryz.ntmps165 Tryz.results165 krZ (λrg hrg=>?_)
 refine af<|wZ rg<|aU bg cb (kk:=3) O (λg1=>nZ<|qZ<|af<|mvZ (ae num) O<|aa<|clZ O<|nv h λr h=>aa<|bJ O O<|nZ<|cZ h O (λhb h=>?_) (λhb h=>?_))
 ·exact af<|aa<|bT kn bg jd i6 az (ps:=[]) O O (v:=.agg [.bool false,.nil,.nil]) O<|aa<|ap (aZ 6 O) az dZ O (w:=.agg [.bool false,.nil,.nil]) O O O (v:=.agg [.bool false,.nil,.nil]) O aT<|aC<|aS (aZ 6 O) az dZ aY O O (v:=.agg [.bool false,.nil,.nil]) O<|aG<|aJ hrg (VW.aggL<|vZ<|vl' (VW.nilL)<|vl' (VW.nilL)<|vn)<|hQ _ h
 exact kZ<|af<|mvZ (ae num) O<|mvZ (ae den) O<|aa<|clZ O<|j5 h λg2 h=>asZ (ae g2) O<|aW<|mvZ (ae num) O<|mvZ (ae g2) O<|aa<|clZ O<|hH h λr1 r2 r3 h=>mvZ (.tuple [ae r1,ae r2,bi 82 r3]) O<|aa<|ah (v:=ae r1) O O O<|aa<|ah (v:=ae r2) O O O<|aa<|ah (v:=bi 82 r3) O O O<|asZ (ae r1) O<|asZ (ae r2) O<|asZ (bi 82 r3) O<|aW<|mvZ (ae den) O<|mvZ (ae g2) O<|aa<|clZ O<|hH h λr4 r5 r6 h=>mvZ (.tuple [ae r4,ae r5,bi 82 r6]) O<|aa<|ah (v:=ae r4) O O O<|aa<|ah (v:=ae r5) O O O<|aa<|ah (v:=bi 82 r6) O O O<|asZ (ae r4) O<|asZ (ae r5) O<|asZ (bi 82 r6) O<|aW<|mvZ (.bool neg) O<|mvZ (ae r1) O<|mvZ (ae r4) O<|aa<|bT kn bg jd i6 az (ps:=[(0,.bool neg),(1,ae r1),(2,ae r4)]) O O (v:=.agg [.bool neg,ae r1,ae r4]) O (aa<|ap (aZ 6 O) az dZ O (w:=.agg [.bool neg,ae r1,ae r4]) O O O (v:=.agg [.bool neg,ae r1,ae r4]) O aT<|aC<|aS (aZ 6 O) az dZ aY O O (v:=.agg [.bool neg,ae r1,ae r4]) O<|aG<|goZ hrg<|hQ _ h)
theorem nj {a:GRat} {b:GRat} {Q:GRat->Prop} (h:iO a b Q) (hQ:∀r1,Q r1->R (ac r1) S) :
  Ctr Tryz.prog 91 [ac a,ac b] S R:=by
 refine aK Tryz.func91 rfl Tryz.ntmps91 Tryz.results91 krZ (λrg hrg=>?_)
 refine af<|wZ rg<|bs (v:=ac a) O O (kk:=3) O dZ (λg1=>wZ rg<|bs (v:=ac b) O O (kk:=3) O dZ (λg2=>wZ rg<|aU bg cb (kk:=3) O (λg3=>aW<|aa<|am (aZ 2 O) az dZ aY O O (v:=ac a) O<|aa<|clZ O<|bV h λr r1 r2 h=>mvZ (.tuple [.bool r,ae r1,ae r2]) O<|aa<|ah (v:=.bool r) O O O<|aa<|ah (v:=ae r1) O O O<|aa<|ah (v:=ae r2) O O O<|asZ (.bool r) O<|asZ (ae r1) O<|asZ (ae r2) O<|aW<|aa<|am (aZ 3 O) az dZ aY O O (v:=ac b) O<|aa<|clZ O<|bV h λr3 r4 r5 h=>mvZ (.tuple [.bool r3,ae r4,ae r5]) O<|aa<|ah (v:=.bool r3) O O O<|aa<|ah (v:=ae r4) O O O<|aa<|ah (v:=ae r5) O O O<|asZ (.bool r3) O<|asZ (ae r4) O<|asZ (ae r5) O<|aW<|mvZ (ae r1) O<|mvZ (ae r5) O<|aa<|clZ O<|cW h λp h=>mvZ (ae r4) O<|mvZ (ae r2) O<|aa<|clZ O<|cW h λq h=>asZ (ae p) O<|asZ (ae q) O<|aW<|mvZ (ae r2) O<|mvZ (ae r5) O<|aa<|clZ O<|cW h λden h=>asZ (ae den) O<|nZ<|qZ<|af<|mvZ (.bool r) O<|mvZ (.bool r3) O<|aa<|tu td4 O O<|nZ<|cZ h O (λhb h=>?_) (λhb h=>?_))))
 ·exact af<|mvZ (.bool r) O<|mvZ (ae p) O<|mvZ (ae q) O<|aa<|clZ O<|oh h λr6 h=>mvZ (ae den) O<|aa<|clZ O<|cz h λr7 h=>aa<|ap (aZ 4 O) az dZ O (w:=ac r7) O O O (v:=ac r7) O aT<|aC<|aS (aZ 4 O) az dZ aY O O (v:=ac r7) O<|aG<|goZ hrg<|hQ _ h
 refine kZ<|qZ<|af<|mvZ (ae p) O<|mvZ (ae q) O<|aa<|clZ O<|eg h λr8 h=>aa<|ey O O<|nZ<|cZ h O (λhb1 h=>?_) (λhb1 h=>?_)
 ·exact af<|mvZ (ae p) O<|mvZ (ae q) O<|aa<|clZ O<|j4 h λr9 r10 h=>mvZ (.tuple [ae r9,bi 82 r10]) O<|aa<|ah (v:=ae r9) O O O<|aa<|ah (v:=bi 82 r10) O O O<|asZ (ae r9) O<|asZ (bi 82 r10) O<|aW<|mvZ (.bool r) O<|mvZ (ae r9) O<|mvZ (ae den) O<|aa<|clZ O<|cz h λr11 h=>aa<|ap (aZ 4 O) az dZ O (w:=ac r11) O O O (v:=ac r11) O aT<|aC<|aS (aZ 4 O) az dZ aY O O (v:=ac r11) O<|aG<|goZ hrg<|hQ _ h
 exact kZ<|af<|mvZ (ae q) O<|mvZ (ae p) O<|aa<|clZ O<|j4 h λr12 r13 h=>mvZ (.tuple [ae r12,bi 82 r13]) O<|aa<|ah (v:=ae r12) O O O<|aa<|ah (v:=bi 82 r13) O O O<|asZ (ae r12) O<|asZ (bi 82 r13) O<|aW<|mvZ (.bool r3) O<|mvZ (ae r12) O<|mvZ (ae den) O<|aa<|clZ O<|cz h λr14 h=>aa<|ap (aZ 4 O) az dZ O (w:=ac r14) O O O (v:=ac r14) O aT<|aC<|aS (aZ 4 O) az dZ aY O O (v:=ac r14) O<|aG<|goZ hrg<|hQ _ h
theorem nh {a:GRat} {Q:GRat->Prop} (h:iN a Q) (hQ:∀r1,Q r1->R (ac r1) S) :
  Ctr Tryz.prog 173 [ac a] S R:=by
 refine aK Tryz.func173 rfl Tryz.ntmps173 Tryz.results173 krZ (λrg hrg=>?_)
 exact af<|wZ rg<|bs (v:=ac a) O O (kk:=3) O dZ (λg1=>wZ rg<|aU bg cb (kk:=3) O (λg2=>aW<|aa<|am (aZ 1 O) az dZ aY O O (v:=ac a) O<|aa<|clZ O<|bV h λr r1 r2 h=>mvZ (.tuple [.bool r,ae r1,ae r2]) O<|aa<|ah (v:=.bool r) O O O<|aa<|ah (v:=ae r1) O O O<|aa<|ah (v:=ae r2) O O O<|asZ (.bool r) O<|asZ (ae r1) O<|asZ (ae r2) O<|aW<|mvZ (.bool r) O<|aa<|db O<|mvZ (ae r1) O<|mvZ (ae r2) O<|aa<|clZ O<|cz h λr3 h=>aa<|ap (aZ 2 O) az dZ O (w:=ac r3) O O O (v:=ac r3) O aT<|aC<|aS (aZ 2 O) az dZ aY O O (v:=ac r3) O<|aG<|goZ hrg<|hQ _ h))
theorem eZ {a:GRat} {b:GRat} {Q:GRat->Prop} (h:cR a b Q) (hQ:∀r1,Q r1->R (ac r1) S) :
  Ctr Tryz.prog 98 [ac a,ac b] S R:=by
 refine aK Tryz.func98 rfl Tryz.ntmps98 Tryz.results98 krZ (λrg hrg=>?_)
 refine af<|wZ rg<|bs (v:=ac a) O O (kk:=3) O dZ (λg1=>wZ rg<|bs (v:=ac b) O O (kk:=3) O dZ (λg2=>wZ rg<|aU bg cb (kk:=3) O (λg3=>nZ<|qZ ?_)))
 obtain⟨r,hc,h⟩:=h
 obtain⟨r1,hc1,h⟩:=h
 exact Vc.drawn' bx rg (fp [(2,pc (ac r)),(3,pc (ac r1))]) krZ<|dL (E:=([(rg,2)],[])) O O (by simp) (cfn) (am (aZ 2 O) az dZ aY O O (v:=ac a) O<|dL (E:=([(rg,3)],[])) O O (by simp) (cfa (by simp[aV])<|cfn) (am (aZ 3 O) az dZ aY O O (v:=ac b) O<|dC (vs:=[ac b]) O (vZ<|vn) (λ_=>nh hc (λ_ hr=>⟨by rw[hr],rfl⟩)) O<|dC (vs:=[ac a,ac r]) O (vZ<|vZ<|vn) (λ_=>nj hc1 (λ_ hr=>⟨by rw[hr],rfl⟩)) O<|dL (E:=([],[(rg,4)])) O O (by simp) (cfo krZ<|cfo krZ<|cfn) (ap (aZ 4 O) az dZ O (w:=ac r1) O O O (v:=ac r1) O aT<|dN<|uZ<|aS (aZ 4 O) az dZ aY O O (v:=ac r1) O<|aG<|goZ hrg<|hQ _ h)))
theorem mz {n:Int} {Q:List Int->Prop} (h:gX n Q) (hQ:∀r1,Q r1->R (ae r1) S) :
  Ctr Tryz.prog 195 [iZ n] S R:=by
 refine aK Tryz.func195 rfl Tryz.ntmps195 Tryz.results195 krZ (λrg hrg=>?_)
 refine af<|asZ .nil O<|nZ<|qZ<|af<|mvZ (iZ n) O<|aa<|bJ O O<|nZ<|cZ h O (λhb h=>?_) (λhb h=>?_)
 ·exact af<|wZ rg<|a8 aR cL bR (es:=[.int .u32 0,.int .u32 2147483648]) O (kk:=1) O O O O O O (λg1=>asZ (.sl 1 rg 5 g1 0<|[0,2147483648].length) O<|aC<|aw (v:=.sl 1 rg 5 g1 0 ([0,2147483648].length)) O<|aG<|bk (k:=5) (xs:=List.map (AV.int .u32) [0,2147483648]) O (v':=ae [0,2147483648]) (ba O)<|goZ hrg<|hQ _ h)
 exact kZ<|af<|mvZ (iZ n) O<|mvZ (iZ n) O<|tkZ h (λhg h=>aa<|yk O hg<|aa<|sw O O<|aa<|clZ O<|kF h λr h=>asZ (ae r) O<|aC<|gv1 hrg<|hQ _ h)
theorem gZ {n:Int} {Q:GRat->Prop} (h:ek n Q) (hQ:∀r1,Q r1->R (ac r1) S) :
  Ctr Tryz.prog 120 [iZ n] S R:=by
 refine aK Tryz.func120 rfl Tryz.ntmps120 Tryz.results120 krZ (λrg hrg=>?_)
 exact af<|wZ rg<|aU bg cb (kk:=3) O (λg1=>aW<|mvZ (iZ n) O<|aa<|a9 O O<|mvZ (iZ n) O<|aa<|clZ O<|mz h λr h=>aa<|clZ O<|gk h λr1 h=>aa<|clZ O<|cz h λr2 h=>aa<|ap (aZ 2 O) az dZ O (w:=ac r2) O O O (v:=ac r2) O aT<|aC<|aS (aZ 2 O) az dZ aY O O (v:=ac r2) O<|aG<|goZ hrg<|hQ _ h)
end Go.Proofs.YtnjgdkfhgmebjaaGreat
namespace Go.Proofs.YtnjgdkfhgmebjaaGreat
open Go.Gg
set_option maxRecDepth 100000
variable {S:St} {R:AV->St->Prop}
theorem kM {a:List Int} {b:List Int} {Q:Bool->Prop} (h:iw a b Q) (hQ:∀r1,Q r1->R (AV.bool r1) S) :
  Ctr Tryz.prog 101 [ae a,ae b] S R:=by
 refine aK Tryz.func101 rfl Tryz.ntmps101 Tryz.results101 krZ (λrg hrg=>?_)
 refine af<|asZ (.bool false) O<|nZ<|qZ<|af<|mvZ (ae a) O<|aa<|aF aR O<|mvZ (ae b) O<|aa<|aF aR O<|aa<|cG O O<|nZ<|cZ h O (λhb h=>?_) (λhb h=>?_)
 ·exact af<|asZ (.bool false) O<|aC<|gv1 hrg<|hQ _ h
 refine kZ<|qZ<|af<|mvZ (ae a) O<|aa<|aF aR O<|mvZ (iZ 0) O<|nZ<|bZ<|lpZ h (λy=>aQ [(0,ae a),(1,ae b),(12,iZ (a.length:Int)),(13,iZ y)]) (λy=>stL S rg []) (an (aA<|fn)<|sn) (λx _ h=>af<|aa<|a9 O O<|nZ<|qZ<|cZ h O (λhb1 h=>?_) (λhb1 h=>?_))
 ·refine kZ<|qZ<|bZ<|af<|mvZ (iZ x) O<|asZ (iZ x) O<|nZ<|qZ<|tkZ h (λhg h=>tkZ h (λhg1 h=>Vc.drawn' bx rg (λ_=>fi) krZ<|dP O O<|au (v:=ae a) O<|dP O O<|au (v:=iZ x) O<|dP O O<|aM aR aX dZ (λ_=>O) O O hg<|dP O O<|aN aX cH O O (v:=.int .u32 (at' a x)) O<|dP O O<|au (v:=ae b) O<|dP O O<|au (v:=iZ x) O<|dP O O<|aM aR aX dZ (λ_=>O) O O hg1<|dP O O<|aN aX cH O O (v:=.int .u32 (at' b x)) O<|dP O O<|cG O O<|dN<|cZ h O (λhb2 h=>?_) (λhb2 h=>?_)))
  ·exact af<|asZ (.bool false) O<|aC<|gv1 hrg<|hQ _ h
  exact kZ<|rZ<|tkZ h (λhg2 h=>aa<|aD O O hg2<|mvZ (iZ<|x+1) O<|nZ<|⟨(x+1),(an (aA<|fn)<|sn),h⟩)
 exact xsZ<|af<|asZ (.bool true) O<|aC<|gv1 hrg<|hQ _ h
theorem e8 {a:GRat} {b:GRat} {Q:Bool->Prop} (h:fC a b Q) (hQ:∀r1,Q r1->R (AV.bool r1) S) :
  Ctr Tryz.prog 40 [ac a,ac b] S R:=by
 refine aK Tryz.func40 rfl Tryz.ntmps40 Tryz.results40 krZ (λrg hrg=>?_)
 refine af<|wZ rg<|bs (v:=ac a) O O (kk:=3) O dZ (λg1=>wZ rg<|bs (v:=ac b) O O (kk:=3) O dZ (λg2=>asZ (.bool false) O<|aW<|aa<|aL kI O<|aa<|ag (aZ 2 O) sz4 ag4 O O (v:=.bool a.Neg) O<|aa<|aL kI O<|aa<|ag (aZ 3 O) sz4 ag4 O O (v:=.bool b.Neg) O<|aa<|tu td4 O O<|mvZ (.bool<|a.Neg == b.Neg) O<|gtZ h O O (λhb h=>?_) (λhb h=>?_)))
 ·refine aa<|aL fA O<|gTZ O O hb<|aa<|ag (aZ 2 O) fK f_ O O (v:=ae a.Num) O<|gTZ O O hb<|aa<|aL fA O<|gTZ O O hb<|aa<|ag (aZ 3 O) fK f_ O O (v:=ae b.Num) O<|gTZ O O hb<|aa<|clZ O<|kM h λr h=>aa<|aH O hb (v:=.bool r) O<|mvZ (.bool r) O<|gtZ h O O (λhb1 h=>?_) (λhb1 h=>?_)
  ·exact aa<|aL gu O<|gTZ O O hb1<|aa<|ag (aZ 2 O) fK f_ O O (v:=ae a.Den) O<|gTZ O O hb1<|aa<|aL gu O<|gTZ O O hb1<|aa<|ag (aZ 3 O) fK f_ O O (v:=ae b.Den) O<|gTZ O O hb1<|aa<|clZ O<|kM h λr1 h=>aa<|aH O hb1 (v:=.bool r1) O<|asZ (.bool r1) O<|aC<|gv1 hrg<|hQ _ h
  exact gFZ O O hb1 O<|gFZ O O hb1 O<|gFZ O O hb1 O<|gFZ O O hb1 O<|aa<|aI O hb1 (v:=.bool false) O<|asZ (.bool false) O<|aC<|gv1 hrg<|hQ _ h
 exact gFZ O O hb O<|gFZ O O hb O<|gFZ O O hb O<|gFZ O O hb O<|aa<|aI O hb (v:=.bool false) O<|mvZ (.bool false) O<|gFZ O O O O<|gFZ O O O O<|gFZ O O O O<|gFZ O O O O<|gFZ O O O O<|aa<|aI O O (v:=.bool false) O<|asZ (.bool false) O<|aC<|gv1 hrg<|hQ _ h
theorem lO {a:List GRat} {b:List GRat} {Q:Bool->Prop} (h:gR a b Q) (hQ:∀r1,Q r1->R (AV.bool r1) S) :
  Ctr Tryz.prog 22 [eL ac a,eL ac b] S R:=by
 refine aK Tryz.func22 rfl Tryz.ntmps22 Tryz.results22 krZ (λrg hrg=>?_)
 refine af<|asZ (.bool false) O<|nZ<|qZ<|af<|mvZ (eL ac a) O<|aa<|aF b9 O<|mvZ (eL ac b) O<|aa<|aF b9 O<|aa<|cG O O<|nZ<|cZ h O (λhb h=>?_) (λhb h=>?_)
 ·exact af<|asZ (.bool false) O<|aC<|gv1 hrg<|hQ _ h
 refine kZ<|qZ<|af<|mvZ (eL ac a) O<|aa<|aF b9 O<|mvZ (iZ 0) O<|nZ<|bZ<|lpZ h (λy=>aQ [(0,eL ac a),(1,eL ac b),(12,iZ (a.length:Int)),(13,iZ y)]) (λy=>stL S rg []) (an (aA<|fn)<|sn) (λx _ h=>af<|aa<|a9 O O<|nZ<|qZ<|cZ h O (λhb1 h=>?_) (λhb1 h=>?_))
 ·refine kZ<|qZ<|bZ<|af<|mvZ (iZ x) O<|asZ (iZ x) O<|nZ<|qZ<|tkZ h (λhg h=>tkZ h (λhg1 h=>?_))
  obtain⟨r,hc,h⟩:=h
  refine Vc.drawn' bx rg (fp [(8,pc (.bool r))]) krZ<|dP O O<|au (v:=eL ac a) O<|dP O O<|au (v:=iZ x) O<|dP O O<|aM b9 az dZ (λ_=>O) O O hg<|dP O O<|bp az dZ aY O O (v:=ac (at' a x)) O<|dP O O<|au (v:=eL ac b) O<|dP O O<|au (v:=iZ x) O<|dP O O<|aM b9 az dZ (λ_=>O) O O hg1<|dP O O<|bp az dZ aY O O (v:=ac (at' b x)) O<|dC (vs:=[ac (at' a x),ac (at' b x)]) O (vZ<|vZ<|vn) (λ_=>e8 hc (λ_ hr=>⟨by rw[hr],rfl⟩)) O<|dP O O<|db O<|dN<|cZ h O (λhb2 h=>?_) (λhb2 h=>?_)
  ·exact af<|asZ (.bool false) O<|aC<|gv1 hrg<|hQ _ h
  exact kZ<|rZ<|tkZ h (λhg2 h=>aa<|aD O O hg2<|mvZ (iZ<|x+1) O<|nZ<|⟨(x+1),(an (aA<|fn)<|sn),h⟩)
 exact xsZ<|af<|asZ (.bool true) O<|aC<|gv1 hrg<|hQ _ h
theorem gn {a:GRat} {b:GRat} {Q:GRat->Prop} (h:dh a b Q) (hQ:∀r1,Q r1->R (ac r1) S) :
  Ctr Tryz.prog 121 [ac a,ac b] S R:=by
 refine aK Tryz.func121 rfl Tryz.ntmps121 Tryz.results121 krZ (λrg hrg=>?_)
 exact af<|wZ rg<|bs (v:=ac a) O O (kk:=3) O dZ (λg1=>wZ rg<|bs (v:=ac b) O O (kk:=3) O dZ (λg2=>wZ rg<|aU bg cb (kk:=3) O (λg3=>aW<|aa<|am (aZ 2 O) az dZ aY O O (v:=ac a) O<|aa<|clZ O<|bV h λr r1 r2 h=>mvZ (.tuple [.bool r,ae r1,ae r2]) O<|aa<|ah (v:=.bool r) O O O<|aa<|ah (v:=ae r1) O O O<|aa<|ah (v:=ae r2) O O O<|asZ (.bool r) O<|asZ (ae r1) O<|asZ (ae r2) O<|aW<|aa<|am (aZ 3 O) az dZ aY O O (v:=ac b) O<|aa<|clZ O<|bV h λr3 r4 r5 h=>mvZ (.tuple [.bool r3,ae r4,ae r5]) O<|aa<|ah (v:=.bool r3) O O O<|aa<|ah (v:=ae r4) O O O<|aa<|ah (v:=ae r5) O O O<|asZ (.bool r3) O<|asZ (ae r4) O<|asZ (ae r5) O<|aW<|mvZ (.bool r) O<|mvZ (.bool r3) O<|aa<|pn td4 O O<|mvZ (ae r1) O<|mvZ (ae r4) O<|aa<|clZ O<|cW h λr6 h=>mvZ (ae r2) O<|mvZ (ae r5) O<|aa<|clZ O<|cW h λr7 h=>aa<|clZ O<|cz h λr8 h=>aa<|ap (aZ 4 O) az dZ O (w:=ac r8) O O O (v:=ac r8) O aT<|aC<|aS (aZ 4 O) az dZ aY O O (v:=ac r8) O<|aG<|goZ hrg<|hQ _ h)))
theorem mA {a:GRat} {Q:Bool->Prop} (h:gY a Q) (hQ:∀r1,Q r1->R (AV.bool r1) S) :
  Ctr Tryz.prog 118 [ac a] S R:=by
 refine aK Tryz.func118 rfl Tryz.ntmps118 Tryz.results118 krZ (λrg hrg=>?_)
 refine af<|wZ rg<|bs (v:=ac a) O O (kk:=3) O dZ (λg1=>asZ (.bool false) O<|aW<|aa<|am (aZ 1 O) az dZ aY O O (v:=ac a) O<|aa<|clZ O<|iM h λr h=>mvZ (.bool r) O<|gtZ h O O (λhb h=>?_) (λhb h=>?_))
 ·refine aa<|aL kI O<|gTZ O O hb<|aa<|ag (aZ 1 O) sz4 ag4 O O (v:=.bool a.Neg) O<|gTZ O O hb<|aa<|db O<|aa<|aH O hb (v:=.bool (!a.Neg)) O<|mvZ (.bool<|!a.Neg) O<|gtZ h O O (λhb1 h=>?_) (λhb1 h=>?_)
  ·exact aa<|aL fA O<|gTZ O O hb1<|aa<|ag (aZ 1 O) fK f_ O O (v:=ae a.Num) O<|gTZ O O hb1<|aa<|aL gu O<|gTZ O O hb1<|aa<|ag (aZ 1 O) fK f_ O O (v:=ae a.Den) O<|gTZ O O hb1<|aa<|clZ O<|eg h λr1 h=>gTZ O O hb1<|aa<|lE O O<|aa<|aH O hb1 (v:=.bool (decide<|r1<=0)) O (asZ (.bool<|decide<|r1<=0) O<|aC<|gv1 hrg<|hQ _ h)
  exact gFZ O O hb1 O<|gFZ O O hb1 O<|gFZ O O hb1 O<|gFZ O O hb1 O<|gFZ O O hb1 O<|aa<|aI O hb1 (v:=.bool false) O<|asZ (.bool false) O<|aC<|gv1 hrg<|hQ _ h
 exact gFZ O O hb O<|gFZ O O hb O<|aa<|aI O hb (v:=.bool false) O<|mvZ (.bool false) O<|gFZ O O O O<|gFZ O O O O<|gFZ O O O O<|gFZ O O O O<|gFZ O O O O<|gFZ O O O O<|aa<|aI O O (v:=.bool false) O<|asZ (.bool false) O<|aC<|gv1 hrg<|hQ _ h
theorem dJ {neg:Bool} {num:List Int} {den:List Int} {Q:GRat->Int->Prop} (h:c6 neg num den Q) (hQ:∀r1 r2,Q r1 r2->R (.tuple [ac r1,iZ r2]) S) :
  Ctr Tryz.prog 113 [AV.bool neg,ae num,ae den] S R:=by
 refine aK Tryz.func113 rfl Tryz.ntmps113 Tryz.results113 krZ (λrg hrg=>?_)
 refine af<|wZ rg<|aU bg cb (kk:=3) O (λg1=>asZ (iZ 0) O<|nZ<|qZ<|af<|mvZ (ae den) O<|aa<|clZ O<|iK h λr h=>aa<|bJ O O<|nZ<|cZ h O (λhb h=>?_) (λhb h=>?_))
 ·exact af<|aa<|bT kn bg jd i6 az (ps:=[]) O O (v:=.agg [.bool false,.nil,.nil]) O<|aa<|ap (aZ 6 O) az dZ O (w:=.agg [.bool false,.nil,.nil]) O O O (v:=.agg [.bool false,.nil,.nil]) O aT<|asZ (iZ 8) O<|aC<|aS (aZ 6 O) az dZ aY O O (v:=.agg [.bool false,.nil,.nil]) O<|aw (v:=iZ 8) O<|aG<|aJ hrg (VW.tupL<|vl' (VW.aggL<|vZ<|vl' (VW.nilL)<|vl' (VW.nilL)<|vn)<|vZ<|vn)<|hQ _ _ h
 refine kZ<|qZ<|af<|mvZ (ae num) O<|aa<|clZ O<|iK h λr1 h=>aa<|bJ O O<|nZ<|cZ h O (λhb1 h=>?_) (λhb1 h=>?_)
 ·exact af<|aa<|bT kn bg jd i6 az (ps:=[]) O O (v:=.agg [.bool false,.nil,.nil]) O<|aa<|ap (aZ 6 O) az dZ O (w:=.agg [.bool false,.nil,.nil]) O O O (v:=.agg [.bool false,.nil,.nil]) O aT<|asZ (iZ 0) O<|aC<|aS (aZ 6 O) az dZ aY O O (v:=.agg [.bool false,.nil,.nil]) O<|aw (v:=iZ 0) O<|aG<|aJ hrg (VW.tupL<|vl' (VW.aggL<|vZ<|vl' (VW.nilL)<|vl' (VW.nilL)<|vn)<|vZ<|vn)<|hQ _ _ h
 exact kZ<|af<|mvZ (ae num) O<|mvZ (ae den) O<|aa<|clZ O<|lC h λg2 h=>asZ (ae g2) O<|aW<|mvZ (ae num) O<|mvZ (ae g2) O<|aa<|clZ O<|jq h λr2 r3 r4 h=>mvZ (.tuple [ae r2,ae r3,iZ r4]) O<|aa<|ah (v:=ae r2) O O O<|aa<|ah (v:=ae r3) O O O<|aa<|ah (v:=iZ r4) O O O<|asZ (ae r2) O<|asZ (ae r3) O<|asZ (iZ r4) O<|aW<|mvZ (ae den) O<|mvZ (ae g2) O<|aa<|clZ O<|jq h λr5 r6 r7 h=>mvZ (.tuple [ae r5,ae r6,iZ r7]) O<|aa<|ah (v:=ae r5) O O O<|aa<|ah (v:=ae r6) O O O<|aa<|ah (v:=iZ r7) O O O<|asZ (ae r5) O<|asZ (ae r6) O<|asZ (iZ r7) O<|aW<|mvZ (.bool neg) O<|mvZ (ae r2) O<|mvZ (ae r5) O<|aa<|bT kn bg jd i6 az (ps:=[(0,.bool neg),(1,ae r2),(2,ae r5)]) O O (v:=.agg [.bool neg,ae r2,ae r5]) O (aa<|ap (aZ 6 O) az dZ O (w:=.agg [.bool neg,ae r2,ae r5]) O O O (v:=.agg [.bool neg,ae r2,ae r5]) O aT<|asZ (iZ 0) O<|aC<|aS (aZ 6 O) az dZ aY O O (v:=.agg [.bool neg,ae r2,ae r5]) O<|aw (v:=iZ 0) O<|aG<|aJ hrg (VW.tupL<|vZ<|vZ<|vn)<|hQ _ _ h)
theorem kv {n:Int} {Q:List Int->Prop} (h:ij n Q) (hQ:∀r1,Q r1->R (ae r1) S) :
  Ctr Tryz.prog 235 [iZ n] S R:=by
 refine aK Tryz.func235 rfl Tryz.ntmps235 Tryz.results235 krZ (λrg hrg=>?_)
 refine af<|asZ .nil O<|aW<|mvZ (iZ n) O<|aa<|bo td3 bU O<|asZ (.int .u64<|IntKind.wrap .u64 n) O<|nZ<|jnZ h (λy=>aQ [(3,.int .u64 y)]) (λy=>stL S rg []) (λu h=>?_) (λ_ h=>?_)
 ·exact af<|mvZ (.int .u64 u) O<|aa<|bo bU bN O<|mvZ (.int .u64 u) O<|aa<|e_ O O dZ<|aa<|bo bU bN O<|wZ rg<|a8 aR cL bR (es:=[.int .u32 (IntKind.wrap .u32 u),.int .u32 (IntKind.wrap .u32<|u / 2^(Int.toNat 32))]) O (kk:=1) O O O O O O (λg1=>asZ (.sl 1 rg 15 g1 0<|[(IntKind.wrap .u32 u),(IntKind.wrap .u32<|u / 2^(Int.toNat 32))].length) O<|aC<|aw (v:=.sl 1 rg 15 g1 0 ([(IntKind.wrap .u32 u),(IntKind.wrap .u32<|u / 2^(Int.toNat 32))].length)) O (aG<|bk (k:=15) (xs:=List.map (AV.int .u32) [(IntKind.wrap .u32 u),(IntKind.wrap .u32<|u / 2^(Int.toNat 32))]) O (v':=ae [(IntKind.wrap .u32 u),(IntKind.wrap .u32<|u / 2^(Int.toNat 32))]) (ba O) (goZ hrg<|hQ _ h)))
 refine af<|mvZ (iZ n) O<|aa<|a9 O O<|nZ<|cZ h O (λhb h=>?_) (λhb h=>?_)
 ·exact rZ<|mvZ (.int .u64<|IntKind.wrap .u64 n) O<|aa<|xL O<|stZ h (λu1 hs h=>wZ rg<|aE (v:=.int .u64 u1) (by subst hs;rfl)<|nZ<|⟨u1,(an (fZ<|fn)<|sn),h⟩)
 exact kZ<|⟨(IntKind.wrap .u64 n),(an (fZ<|fn)<|sn),h⟩
theorem kx {n:Int} {d:Int} {Q:GRat->Int->Prop} (h:im n d Q) (hQ:∀r1 r2,Q r1 r2->R (.tuple [ac r1,iZ r2]) S) :
  Ctr Tryz.prog 150 [iZ n,iZ d] S R:=by
 refine aK Tryz.func150 rfl Tryz.ntmps150 Tryz.results150 krZ (λrg hrg=>?_)
 exact af<|wZ rg<|aU bg cb (kk:=3) O (λg1=>asZ (iZ 0) O<|aW<|mvZ (iZ n) O<|aa<|a9 O O<|mvZ (iZ d) O<|aa<|a9 O O<|aa<|pn td4 O O<|mvZ (iZ n) O<|aa<|clZ O<|kv h λr h=>mvZ (iZ d) O<|aa<|clZ O<|kv h λr1 h=>aa<|clZ O<|dJ h λr2 r3 h=>aa<|ah (v:=ac r2) O O O<|aa<|ah (v:=iZ r3) O O O<|aa<|ap (aZ 4 O) az dZ O (w:=ac r2) O O O (v:=ac r2) O aT<|asZ (iZ r3) O<|aC<|aS (aZ 4 O) az dZ aY O O (v:=ac r2) O<|aw (v:=iZ r3) O<|aG<|aJ hrg (VW.tupL<|vZ<|vZ<|vn)<|hQ _ _ h)
theorem il {n:Int} {Q:GRat->Prop} (h:eF n Q) (hQ:∀r1,Q r1->R (ac r1) S) :
  Ctr Tryz.prog 72 [iZ n] S R:=by
 refine aK Tryz.func72 rfl Tryz.ntmps72 Tryz.results72 krZ (λrg hrg=>?_)
 exact af<|wZ rg<|aU bg cb (kk:=3) O (λg1=>aW<|mvZ (iZ n) O<|aa<|clZ O<|kx h λr r1 h=>mvZ (.tuple [ac r,iZ r1]) O<|aa<|ah (v:=ac r) O O O<|aa<|ah (v:=iZ r1) O O O<|wZ rg<|aU bg cb (kk:=3) O (λg2=>aa<|ap (aZ 3 O) az dZ O (w:=ac r) O O O (v:=ac r) O aT<|asZ (iZ r1) O<|aW<|aa<|am (aZ 3 O) az dZ aY O O (v:=ac r) O<|aa<|ap (aZ 2 O) az dZ O (w:=ac r) O O O (v:=ac r) O aT<|aC<|aS (aZ 2 O) az dZ aY O O (v:=ac r) O<|aG<|goZ hrg<|hQ _ h))
theorem fv {a:GRat} {Q:Bool->Prop} (h:fr a Q) (hQ:∀r1,Q r1->R (AV.bool r1) S) :
  Ctr Tryz.prog 117 [ac a] S R:=by
 refine aK Tryz.func117 rfl Tryz.ntmps117 Tryz.results117 krZ (λrg hrg=>?_)
 refine af<|wZ rg<|bs (v:=ac a) O O (kk:=3) O dZ (λg1=>asZ (.bool false) O<|nZ<|qZ<|Vc.drawn' bx rg (λ_=>fi) krZ<|dP O O<|aL fA O<|dL (E:=([(rg,1)],[])) O O (by simp) (cfn) (ag (aZ 1 O) fK f_ O O (v:=ae a.Num) O<|dP O O<|aF aR O<|dP O O<|aL gu O<|dL (E:=([(rg,1)],[])) O O (by simp) (cfa (by simp[aV])<|cfn) (ag (aZ 1 O) fK f_ O O (v:=ae a.Den) O<|dP O O<|aF aR O<|dP O O<|aE (v:=iZ (a.Num.length:Int)) O<|dP O O<|aE (v:=iZ (a.Den.length:Int)) O<|dN<|qZ<|jgZ (γ:=Nat) h (λy=>aQ [(1,.ptr rg 1 y.2 0 0),(3,iZ (a.Num.length:Int)),(4,iZ (a.Den.length:Int)),(16,.bool y.1)]) (λy=>stL S rg [(1,.arr 3 [ac a],y.2)]) (λy h=>?_) (λ_ h=>?_))))
 ·obtain⟨x,g2⟩:=y
  refine cZ h O (λhb h=>?_) (λhb h=>?_)
  ·refine af<|mvZ (iZ (a.Num.length:Int)) O<|aa<|bJ O O<|mvZ (.bool<|(a.Num.length:Int) == 0) O<|gtZ h O O (λhb1 h=>?_) (λhb1 h=>?_)
   ·refine mvZ (iZ (a.Den.length:Int)) O<|gTZ O O hb1<|aa<|bJ O O<|aa<|aH O hb1 (v:=.bool ((a.Den.length:Int) == 0)) O (mvZ (.bool<|(a.Den.length:Int) == 0) O<|gtZ h O O (λhb2 h=>?_) (λhb2 h=>?_))
    ·exact aa<|aL kI O<|gTZ O O hb2<|aa<|ag (aZ 1 O) sz4 ag4 O O (v:=.bool a.Neg) O<|gTZ O O hb2<|aa<|db O<|aa<|aH O hb2 (v:=.bool (!a.Neg)) O<|asZ (.bool<|!a.Neg) O<|aC<|gv1 hrg<|hQ _ h
    exact gFZ O O hb2 O<|gFZ O O hb2 O<|aa<|aI O hb2 (v:=.bool false) O<|asZ (.bool false) O<|aC<|gv1 hrg<|hQ _ h
   exact gFZ O O hb1 O<|aa<|aI O hb1 (v:=.bool false) O<|mvZ (.bool false) O<|gFZ O O O O<|gFZ O O O O<|gFZ O O O O<|aa<|aI O O (v:=.bool false) O<|asZ (.bool false) O<|aC<|gv1 hrg<|hQ _ h
  refine kZ<|af<|aa<|aL fA O<|aa<|ag (aZ 1 O) fK f_ O O (v:=ae a.Num) O<|mvZ (iZ (a.Num.length:Int)) O<|tkZ h (λhg h=>aa<|bt O O hg<|tkZ h (λhg1 h=>aa<|aM aR aX dZ (λ_=>O) O O hg1<|aa<|aN aX cH O O (v:=.int .u32 (at' a.Num<|(a.Num.length:Int)-1)) O (aa<|cG O O<|mvZ (.bool<|(at' a.Num<|(a.Num.length:Int)-1) != 0) O (gtZ h O O (λhb3 h=>?_) (λhb3 h=>?_)))))
  ·refine aa<|aL gu O<|gTZ O O hb3<|aa<|ag (aZ 1 O) fK f_ O O (v:=ae a.Den) O<|gTZ O O hb3<|mvZ (iZ (a.Den.length:Int)) O<|gTZ O O hb3<|tkZ h (λhg2 h=>aa<|bt O O hg2<|gTZ O O hb3<|tkZ h (λhg3 h=>aa<|aM aR aX dZ (λ_=>O) O O hg3<|gTZ O O hb3<|aa<|aN aX cH O O (v:=.int .u32 (at' a.Den<|(a.Den.length:Int)-1)) O (gTZ O O hb3<|aa<|cG O O<|aa<|aH O hb3 (v:=.bool ((at' a.Den<|(a.Den.length:Int)-1) != 0)) O (mvZ (.bool<|(at' a.Den<|(a.Den.length:Int)-1) != 0) O (gtZ h O O (λhb4 h=>?_) (λhb4 h=>?_))))))
   ·exact aa<|aL fA O<|gTZ O O hb4<|aa<|ag (aZ 1 O) fK f_ O O (v:=ae a.Num) O<|gTZ O O hb4<|aa<|aL gu O<|gTZ O O hb4<|aa<|ag (aZ 1 O) fK f_ O O (v:=ae a.Den) O<|gTZ O O hb4<|aa<|clZ O<|lC h λr h=>gTZ O O hb4<|aa<|clZ O<|iK h λr1 h=>gTZ O O hb4<|aa<|bJ O O<|aa<|aH O hb4 (v:=.bool (r1 == 1)) O<|asZ (.bool<|r1 == 1) O<|aC<|gv1 hrg<|hQ _ h
   exact gFZ O O hb4 O<|gFZ O O hb4 O<|gFZ O O hb4 O<|gFZ O O hb4 O<|gFZ O O hb4 O<|gFZ O O hb4 O<|aa<|aI O hb4 (v:=.bool false) O<|asZ (.bool false) O<|aC<|gv1 hrg<|hQ _ h
  exact gFZ O O hb3 O<|gFZ O O hb3 O<|gFZ O O hb3 O<|gFZ O O hb3 O<|gFZ O O hb3 O<|gFZ O O hb3 O<|aa<|aI O hb3 (v:=.bool false) O<|mvZ (.bool false) O<|gFZ O O O O<|gFZ O O O O<|gFZ O O O O<|gFZ O O O O<|gFZ O O O O<|gFZ O O O O<|gFZ O O O O<|aa<|aI O O (v:=.bool false) O<|asZ (.bool false) O<|aC<|gv1 hrg<|hQ _ h
 refine rZ<|mvZ (iZ (a.Num.length:Int)) O<|aa<|bJ O O<|mvZ (.bool<|(a.Num.length:Int) == 0) O<|gfZ h O O (λhb5 h=>?_) (λhb5 h=>?_)
 ·exact mvZ (iZ (a.Den.length:Int)) O<|gTZ O O hb5<|aa<|bJ O O<|aa<|aI O hb5 (v:=.bool ((a.Den.length:Int) == 0)) O (nZ<|⟨(((a.Den.length:Int) == 0),g1),(an (aA<|fn)<|sc O<|sn),h⟩)
 exact gFZ O O hb5 O<|aa<|aH O hb5 (v:=.bool true) O<|nZ<|⟨(true,g1),(an (aA<|fn)<|sc O<|sn),h⟩
theorem cF {a:GRat} {Q:Bool->List Int->List Int->Prop} (h:cw a Q) (hQ:∀r1 r2 r3,Q r1 r2 r3->R (.tuple [AV.bool r1,ae r2,ae r3]) S) :
  Ctr Tryz.prog 103 [ac a] S R:=by
 refine aK Tryz.func103 rfl Tryz.ntmps103 Tryz.results103 krZ (λrg hrg=>?_)
 refine af<|wZ rg<|bs (v:=ac a) O O (kk:=3) O dZ (λg1=>asZ (.bool false) O<|asZ .nil O<|asZ .nil O<|nZ<|qZ<|jgZ (γ:=Nat) h (λy=>aQ [(1,.ptr rg 1 y.2 0 0),(13,.bool y.1)]) (λy=>stL S rg [(1,.arr 3 [ac a],y.2)]) (λy h=>?_) (λ_ h=>?_))
 ·obtain⟨x,g2⟩:=y
  refine cZ h O (λhb h=>?_) (λhb h=>?_)
  ·exact af<|wZ rg<|a8 aR cL bR (es:=[.int .u32 1]) O (kk:=1) O O O O O O (λg3=>asZ (.bool false) O<|asZ .nil O<|asZ (.sl 1 rg 14 g3 0<|[1].length) O<|aC<|aw (v:=.bool false) O<|aw (v:=.nil) O<|aw (v:=.sl 1 rg 14 g3 0 ([1].length)) O<|aG<|bk (k:=14) (xs:=List.map (AV.int .u32) [1]) O (v':=.tuple [.bool false,.nil,ae [1]]) (VW.tupL<|vZ<|vZ<|vl' (ba O)<|vn)<|aJ hrg (VW.tupL<|vZ<|vl' (VW.nilL)<|vZ<|vn)<|hQ _ _ _ h)
  exact kZ<|qZ<|Vc.drawn' bx rg (λ_=>fi) krZ<|dP O O<|aL kI O<|dL (E:=([(rg,1)],[])) O O (by simp) (cfn) (ag (aZ 1 O) sz4 ag4 O O (v:=.bool a.Neg) O<|dP O O<|aL fA O<|dL (E:=([(rg,1)],[])) O O (by simp) (cfa (by simp[aV])<|cfn) (ag (aZ 1 O) fK f_ O O (v:=ae a.Num) O<|dP O O<|aL gu O<|dL (E:=([(rg,1)],[])) O O (by simp) (cfa (by simp[aV])<|cfa (by simp[aV])<|cfn) (ag (aZ 1 O) fK f_ O O (v:=ae a.Den) O<|dP O O<|aE (v:=.bool a.Neg) O<|dP O O<|aE (v:=ae a.Num) O<|dP O O<|aE (v:=ae a.Den) O<|dN<|uZ<|aw (v:=.bool a.Neg) O<|aw (v:=ae a.Num) O<|aw (v:=ae a.Den) O<|aG<|aJ hrg (VW.tupL<|vZ<|vZ<|vZ<|vn)<|hQ _ _ _ h)))
 refine rZ<|aa<|am (aZ 1 O) az dZ aY O O (v:=ac a) O<|aa<|clZ O<|fv h λr h=>aa<|db O<|mvZ (.bool<|!r) O<|gfZ h O O (λhb1 h=>?_) (λhb1 h=>?_)
 ·exact aa<|aL fA O<|gTZ O O hb1<|aa<|ag (aZ 1 O) fK f_ O O (v:=ae a.Num) O<|gTZ O O hb1<|aa<|aF aR O<|gTZ O O hb1<|aa<|bJ O O<|aa<|aI O hb1 (v:=.bool ((a.Num.length:Int) == 0)) O (nZ<|⟨(((a.Num.length:Int) == 0),g1),(an (fZ<|fZ<|fn)<|sc O<|sn),h⟩)
 exact gFZ O O hb1 O<|gFZ O O hb1 O<|gFZ O O hb1 O<|aa<|aH O hb1 (v:=.bool true) O<|nZ<|⟨(true,g1),(an (fZ<|fZ<|fn)<|sc O<|sn),h⟩
theorem fR {a:GRat} {Q:Int->Prop} (h:d5 a Q) (hQ:∀r1,Q r1->R (iZ r1) S) :
  Ctr Tryz.prog 43 [ac a] S R:=by
 refine aK Tryz.func43 rfl Tryz.ntmps43 Tryz.results43 krZ (λrg hrg=>?_)
 refine af<|wZ rg<|bs (v:=ac a) O O (kk:=3) O dZ (λg1=>asZ (iZ 0) O<|aW<|aa<|am (aZ 1 O) az dZ aY O O (v:=ac a) O<|aa<|clZ O<|cF h λr r1 r2 h=>mvZ (.tuple [.bool r,ae r1,ae r2]) O<|aa<|ah (v:=.bool r) O O O<|aa<|ah (v:=ae r1) O O O<|aa<|ah (v:=ae r2) O O O<|asZ (.bool r) O<|asZ (ae r1) O<|asZ (ae r2) O<|nZ<|qZ<|af<|mvZ (ae r1) O<|aa<|aF aR O<|aa<|bJ O O<|nZ<|cZ h O (λhb h=>?_) (λhb h=>?_))
 ·exact af<|asZ (iZ 0) O<|aC<|gv1 hrg<|hQ _ h
 refine kZ<|qZ<|af<|mvZ (.bool r) O<|nZ<|cZ h O (λhb1 h=>?_) (λhb1 h=>?_)
 ·exact af<|asZ (iZ<|-1) O<|aC<|gv1 hrg<|hQ _ h
 exact kZ<|af<|asZ (iZ 1) O<|aC<|gv1 hrg<|hQ _ h
theorem qa {a:GRat} {b:GRat} {Q:GRat->Prop} (h:ky a b Q) (hQ:∀r1,Q r1->R (ac r1) S) :
  Ctr Tryz.prog 50 [ac a,ac b] S R:=by
 refine aK Tryz.func50 rfl Tryz.ntmps50 Tryz.results50 krZ (λrg hrg=>?_)
 refine af<|wZ rg<|bs (v:=ac a) O O (kk:=3) O dZ (λg1=>wZ rg<|bs (v:=ac b) O O (kk:=3) O dZ (λg2=>wZ rg<|aU bg cb (kk:=3) O (λg3=>aW<|aa<|am (aZ 2 O) az dZ aY O O (v:=ac a) O<|aa<|clZ O<|cF h λr r1 r2 h=>mvZ (.tuple [.bool r,ae r1,ae r2]) O<|aa<|ah (v:=.bool r) O O O<|aa<|ah (v:=ae r1) O O O<|aa<|ah (v:=ae r2) O O O<|asZ (.bool r) O<|asZ (ae r1) O<|asZ (ae r2) O<|aW<|aa<|am (aZ 3 O) az dZ aY O O (v:=ac b) O<|aa<|clZ O<|cF h λr3 r4 r5 h=>mvZ (.tuple [.bool r3,ae r4,ae r5]) O<|aa<|ah (v:=.bool r3) O O O<|aa<|ah (v:=ae r4) O O O<|aa<|ah (v:=ae r5) O O O<|asZ (.bool r3) O<|asZ (ae r4) O<|asZ (ae r5) O<|aW<|mvZ (ae r1) O<|mvZ (ae r5) O<|aa<|clZ O<|da h λx h=>mvZ (ae r4) O<|mvZ (ae r2) O<|aa<|clZ O<|da h λy1 h=>mvZ (ae r2) O<|mvZ (ae r5) O<|aa<|clZ O<|da h λden h=>asZ (ae x) O<|asZ (ae y1) O<|asZ (ae den) O<|nZ<|qZ<|af<|mvZ (.bool r) O<|mvZ (.bool r3) O<|aa<|tu td4 O O<|nZ<|cZ h O (λhb h=>?_) (λhb h=>?_))))
 ·exact af<|mvZ (.bool r) O<|mvZ (ae x) O<|mvZ (ae y1) O<|aa<|clZ O<|qb h λr6 h=>mvZ (ae den) O<|aa<|clZ O<|dJ h λr7 r8 h=>mvZ (.tuple [ac r7,iZ r8]) O<|aa<|ah (v:=ac r7) O O O<|aa<|ah (v:=iZ r8) O O O<|wZ rg<|aU bg cb (kk:=3) O (λg4=>aa<|ap (aZ 14 O) az dZ O (w:=ac r7) O O O (v:=ac r7) O aT<|asZ (iZ r8) O<|aW<|aa<|am (aZ 14 O) az dZ aY O O (v:=ac r7) O<|aa<|ap (aZ 4 O) az dZ O (w:=ac r7) O O O (v:=ac r7) O aT<|aC<|aS (aZ 4 O) az dZ aY O O (v:=ac r7) O<|aG<|goZ hrg<|hQ _ h)
 refine kZ<|jgZ (γ:=Nat) h (λy=>aQ [(4,.ptr rg 4 y.2 0 0),(5,.bool y.1.1),(11,ae y.1.2.1),(12,ae y.1.2.2),(13,ae den)]) (λy=>stL S rg [(4,.arr 3 [.agg [.bool false,.nil,.nil]],y.2)]) (λy h=>?_) (λ_ h=>?_)
 ·obtain⟨⟨s,x1,y2⟩,g5⟩:=y
  exact af<|mvZ (ae x1) O<|mvZ (ae y2) O<|aa<|clZ O<|jp h λr9 r10 h=>mvZ (.tuple [ae r9,iZ r10]) O<|aa<|ah (v:=ae r9) O O O<|aa<|ah (v:=iZ r10) O O O<|asZ (ae r9) O<|asZ (iZ r10) O<|aW<|mvZ (.bool s) O<|mvZ (ae r9) O<|mvZ (ae den) O<|aa<|clZ O<|dJ h λr11 r12 h=>mvZ (.tuple [ac r11,iZ r12]) O<|aa<|ah (v:=ac r11) O O O<|aa<|ah (v:=iZ r12) O O O<|wZ rg<|aU bg cb (kk:=3) O (λg6=>aa<|ap (aZ 18 O) az dZ O (w:=ac r11) O O O (v:=ac r11) O aT<|asZ (iZ r12) O<|aW<|aa<|am (aZ 18 O) az dZ aY O O (v:=ac r11) O<|aa<|ap (aZ 4 O) az dZ O (w:=ac r11) O O O (v:=ac r11) O aT<|aC<|aS (aZ 4 O) az dZ aY O O (v:=ac r11) O<|aG<|goZ hrg<|hQ _ h)
 refine af<|mvZ (ae x) O<|mvZ (ae y1) O<|aa<|clZ O<|jr h λr13 h=>aa<|a9 O O<|nZ<|cZ h O (λhb1 h=>?_) (λhb1 h=>?_)
 ·exact rZ<|mvZ (.bool r3) O<|mvZ (ae y1) O<|mvZ (ae x) O<|asZ (.bool r3) O<|asZ (ae y1) O<|asZ (ae x) O<|nZ<|⟨((r3,y1,x),g3),(an (aA<|fZ<|fn)<|sc O<|sn),h⟩
 exact kZ<|⟨((r,x,y1),g3),(an (aA<|fZ<|fn)<|sc O<|sn),h⟩
theorem p_ {a:GRat} {Q:GRat->Prop} (h:kw a Q) (hQ:∀r1,Q r1->R (ac r1) S) :
  Ctr Tryz.prog 100 [ac a] S R:=by
 refine aK Tryz.func100 rfl Tryz.ntmps100 Tryz.results100 krZ (λrg hrg=>?_)
 exact af<|wZ rg<|bs (v:=ac a) O O (kk:=3) O dZ (λg1=>wZ rg<|aU bg cb (kk:=3) O (λg2=>aW<|aa<|am (aZ 1 O) az dZ aY O O (v:=ac a) O<|aa<|clZ O<|cF h λr r1 r2 h=>mvZ (.tuple [.bool r,ae r1,ae r2]) O<|aa<|ah (v:=.bool r) O O O<|aa<|ah (v:=ae r1) O O O<|aa<|ah (v:=ae r2) O O O<|asZ (.bool r) O<|asZ (ae r1) O<|asZ (ae r2) O<|aW<|mvZ (.bool r) O<|aa<|db O<|mvZ (ae r1) O<|mvZ (ae r2) O<|aa<|clZ O<|dJ h λr3 r4 h=>mvZ (.tuple [ac r3,iZ r4]) O<|aa<|ah (v:=ac r3) O O O<|aa<|ah (v:=iZ r4) O O O<|wZ rg<|aU bg cb (kk:=3) O (λg3=>aa<|ap (aZ 6 O) az dZ O (w:=ac r3) O O O (v:=ac r3) O aT<|asZ (iZ r4) O<|aW<|aa<|am (aZ 6 O) az dZ aY O O (v:=ac r3) O<|aa<|ap (aZ 2 O) az dZ O (w:=ac r3) O O O (v:=ac r3) O aT<|aC<|aS (aZ 2 O) az dZ aY O O (v:=ac r3) O<|aG<|goZ hrg<|hQ _ h)))
theorem jn {a:GRat} {b:GRat} {Q:GRat->Prop} (h:eE a b Q) (hQ:∀r1,Q r1->R (ac r1) S) :
  Ctr Tryz.prog 38 [ac a,ac b] S R:=by
 refine aK Tryz.func38 rfl Tryz.ntmps38 Tryz.results38 krZ (λrg hrg=>?_)
 refine af<|wZ rg<|bs (v:=ac a) O O (kk:=3) O dZ (λg1=>wZ rg<|bs (v:=ac b) O O (kk:=3) O dZ (λg2=>wZ rg<|aU bg cb (kk:=3) O (λg3=>nZ<|qZ ?_)))
 obtain⟨r,hc,h⟩:=h
 obtain⟨r1,hc1,h⟩:=h
 exact Vc.drawn' bx rg (fp [(2,pc (ac r)),(3,pc (ac r1))]) krZ<|dL (E:=([(rg,2)],[])) O O (by simp) (cfn) (am (aZ 2 O) az dZ aY O O (v:=ac a) O<|dL (E:=([(rg,3)],[])) O O (by simp) (cfa (by simp[aV])<|cfn) (am (aZ 3 O) az dZ aY O O (v:=ac b) O<|dC (vs:=[ac b]) O (vZ<|vn) (λ_=>p_ hc (λ_ hr=>⟨by rw[hr],rfl⟩)) O<|dC (vs:=[ac a,ac r]) O (vZ<|vZ<|vn) (λ_=>qa hc1 (λ_ hr=>⟨by rw[hr],rfl⟩)) O<|dL (E:=([],[(rg,4)])) O O (by simp) (cfo krZ<|cfo krZ<|cfn) (ap (aZ 4 O) az dZ O (w:=ac r1) O O O (v:=ac r1) O aT<|dN<|uZ<|aS (aZ 4 O) az dZ aY O O (v:=ac r1) O<|aG<|goZ hrg<|hQ _ h)))
theorem lB {a:GRat} {b:GRat} {Q:Int->Prop} (h:fF a b Q) (hQ:∀r1,Q r1->R (iZ r1) S) :
  Ctr Tryz.prog 44 [ac a,ac b] S R:=by
 refine aK Tryz.func44 rfl Tryz.ntmps44 Tryz.results44 krZ (λrg hrg=>?_)
 exact af<|wZ rg<|bs (v:=ac a) O O (kk:=3) O dZ (λg1=>wZ rg<|bs (v:=ac b) O O (kk:=3) O dZ (λg2=>asZ (iZ 0) O<|aW<|aa<|am (aZ 2 O) az dZ aY O O (v:=ac a) O<|aa<|am (aZ 3 O) az dZ aY O O (v:=ac b) O<|aa<|clZ O<|jn h λr h=>aa<|clZ O<|fR h λr1 h=>asZ (iZ r1) O<|aC<|gv1 hrg<|hQ _ h))
theorem fS {a:GRat} {Q:Bool->Prop} (h:eW a Q) (hQ:∀r1,Q r1->R (AV.bool r1) S) :
  Ctr Tryz.prog 51 [ac a] S R:=by
 refine aK Tryz.func51 rfl Tryz.ntmps51 Tryz.results51 krZ (λrg hrg=>?_)
 refine af<|wZ rg<|bs (v:=ac a) O O (kk:=3) O dZ (λg1=>asZ (.bool false) O<|nZ<|qZ ?_)
 obtain⟨r,hc,h⟩:=h
 refine bcZ h (λhb h=>?_) (λhb h=>?_)
 ·obtain⟨r1,hc1,h⟩:=h
  refine bcZ h (λhb1 h=>?_) (λhb1 h=>?_)
  ·obtain⟨r2,hc2,h⟩:=h
   obtain⟨r3,hc3,h⟩:=h
   exact Vc.drawn' bx rg (fp [(1,pc (.bool r)),(4,pc (iZ r1)),(9,pc (ac r2)),(10,pc (iZ r3))]) krZ<|dL (E:=([(rg,1)],[])) O O (by simp) (cfn) (am (aZ 1 O) az dZ aY O O (v:=ac a) O<|dC (vs:=[ac a]) O (vZ<|vn) (λ_=>fv hc (λ_ hr=>⟨by rw[hr],rfl⟩)) O<|dP O O<|au (v:=.bool r) O<|dGT O O hb<|dL (E:=([(rg,1)],[])) O O (by simp) (cfo krZ<|cfn) (am (aZ 1 O) az dZ aY O O (v:=ac a) O<|dGT O O O<|dC (vs:=[ac a]) O (vZ<|vn) (λ_=>fR hc1 (λ_ hr=>⟨by rw[hr],rfl⟩)) O<|dGT O O O<|dP O O<|ey O O<|dP O O<|aH O O (v:=.bool (decide<|0<=r1)) O (dP O O<|au (v:=.bool (decide<|0<=r1)) O (dGT O O hb1<|dL (E:=([(rg,1)],[])) O O (by simp) (cfo krZ<|cfo krZ<|cfn) (am (aZ 1 O) az dZ aY O O (v:=ac a) O<|dGT O O O<|dC (vs:=[iZ 1]) O (vZ<|vn) (λ_=>il hc2 (λ_ hr=>⟨by rw[hr],rfl⟩)) O<|dGT O O O<|dC (vs:=[ac a,ac r2]) O (vZ<|vZ<|vn) (λ_=>lB hc3 (λ_ hr=>⟨by rw[hr],rfl⟩)) O<|dGT O O O<|dP O O<|lE O O<|dP O O<|aH O O (v:=.bool (decide<|r3<=0)) O (dP O O<|aE (v:=.bool (decide<|r3<=0)) O (dN<|uZ<|gv1 hrg<|hQ _ h)))))))
  exact Vc.drawn' bx rg (fp [(1,pc (.bool r)),(4,pc (iZ r1))]) krZ<|dL (E:=([(rg,1)],[])) O O (by simp) (cfn) (am (aZ 1 O) az dZ aY O O (v:=ac a) O<|dC (vs:=[ac a]) O (vZ<|vn) (λ_=>fv hc (λ_ hr=>⟨by rw[hr],rfl⟩)) O<|dP O O<|au (v:=.bool r) O<|dGT O O hb<|dL (E:=([(rg,1)],[])) O O (by simp) (cfo krZ<|cfn) (am (aZ 1 O) az dZ aY O O (v:=ac a) O<|dGT O O O<|dC (vs:=[ac a]) O (vZ<|vn) (λ_=>fR hc1 (λ_ hr=>⟨by rw[hr],rfl⟩)) O<|dGT O O O<|dP O O<|ey O O<|dP O O<|aH O O (v:=.bool (decide<|0<=r1)) O (dP O O<|au (v:=.bool (decide<|0<=r1)) O (dGF O O hb1 O<|dGF O O O O<|dGF O O O O<|dGF O O O O<|dP O O<|aI O O (v:=.bool false) O<|dP O O<|aE (v:=.bool false) O<|dN<|uZ<|gv1 hrg<|hQ _ h))))
 exact Vc.drawn' bx rg (fp [(1,pc (.bool r))]) krZ<|dL (E:=([(rg,1)],[])) O O (by simp) (cfn) (am (aZ 1 O) az dZ aY O O (v:=ac a) O<|dC (vs:=[ac a]) O (vZ<|vn) (λ_=>fv hc (λ_ hr=>⟨by rw[hr],rfl⟩)) O<|dP O O<|au (v:=.bool r) O<|dGF O O hb O<|dGF O O O O<|dGF O O O O<|dP O O<|aI O O (v:=.bool false) O<|dP O O<|au (v:=.bool false) O<|dGF O O O O<|dGF O O O O<|dGF O O O O<|dGF O O O O<|dP O O<|aI O O (v:=.bool false) O<|dP O O<|aE (v:=.bool false) O<|dN<|uZ<|gv1 hrg<|hQ _ h)
theorem jo {a:GRat} {b:GRat} {Q:GRat->Prop} (h:eG a b Q) (hQ:∀r1,Q r1->R (ac r1) S) :
  Ctr Tryz.prog 124 [ac a,ac b] S R:=by
 refine aK Tryz.func124 rfl Tryz.ntmps124 Tryz.results124 krZ (λrg hrg=>?_)
 refine af<|wZ rg<|bs (v:=ac a) O O (kk:=3) O dZ (λg1=>wZ rg<|bs (v:=ac b) O O (kk:=3) O dZ (λg2=>wZ rg<|aU bg cb (kk:=3) O (λg3=>aW<|aa<|am (aZ 2 O) az dZ aY O O (v:=ac a) O<|aa<|clZ O<|cF h λr r1 r2 h=>mvZ (.tuple [.bool r,ae r1,ae r2]) O<|aa<|ah (v:=.bool r) O O O<|aa<|ah (v:=ae r1) O O O<|aa<|ah (v:=ae r2) O O O<|asZ (.bool r) O<|asZ (ae r1) O<|asZ (ae r2) O<|aW<|aa<|am (aZ 3 O) az dZ aY O O (v:=ac b) O<|aa<|clZ O<|cF h λr3 r4 r5 h=>mvZ (.tuple [.bool r3,ae r4,ae r5]) O<|aa<|ah (v:=.bool r3) O O O<|aa<|ah (v:=ae r4) O O O<|aa<|ah (v:=ae r5) O O O<|asZ (.bool r3) O<|asZ (ae r4) O<|asZ (ae r5) O<|aW<|mvZ (.bool r) O<|mvZ (.bool r3) O<|aa<|pn td4 O O<|mvZ (ae r1) O<|mvZ (ae r4) O<|aa<|clZ O<|da h λr6 h=>mvZ (ae r2) O<|mvZ (ae r5) O<|aa<|clZ O<|da h λr7 h=>aa<|clZ O<|dJ h λr8 r9 h=>mvZ (.tuple [ac r8,iZ r9]) O<|aa<|ah (v:=ac r8) O O O<|aa<|ah (v:=iZ r9) O O O<|wZ rg<|aU bg cb (kk:=3) O (λg4=>aa<|ap (aZ 11 O) az dZ O (w:=ac r8) O O O (v:=ac r8) O aT<|asZ (iZ r9) O<|nZ<|qZ<|rZ ?_))))
 exact aa<|am (aZ 11 O) az dZ aY O O (v:=ac r8) O<|aa<|ap (aZ 4 O) az dZ O (w:=ac r8) O O O (v:=ac r8) O aT<|aC<|aS (aZ 4 O) az dZ aY O O (v:=ac r8) O<|aG<|goZ hrg<|hQ _ h
theorem lA {a:GRat} {b:GRat} {Q:GRat->Int->Prop} (h:fE a b Q) (hQ:∀r1 r2,Q r1 r2->R (.tuple [ac r1,iZ r2]) S) :
  Ctr Tryz.prog 125 [ac a,ac b] S R:=by
 refine aK Tryz.func125 rfl Tryz.ntmps125 Tryz.results125 krZ (λrg hrg=>?_)
 refine af<|wZ rg<|bs (v:=ac a) O O (kk:=3) O dZ (λg1=>wZ rg<|bs (v:=ac b) O O (kk:=3) O dZ (λg2=>wZ rg<|aU bg cb (kk:=3) O (λg3=>asZ (iZ 0) O<|aW<|aa<|am (aZ 2 O) az dZ aY O O (v:=ac a) O<|aa<|clZ O<|cF h λr r1 r2 h=>mvZ (.tuple [.bool r,ae r1,ae r2]) O<|aa<|ah (v:=.bool r) O O O<|aa<|ah (v:=ae r1) O O O<|aa<|ah (v:=ae r2) O O O<|asZ (.bool r) O<|asZ (ae r1) O<|asZ (ae r2) O<|aW<|aa<|am (aZ 3 O) az dZ aY O O (v:=ac b) O<|aa<|clZ O<|cF h λr3 r4 r5 h=>mvZ (.tuple [.bool r3,ae r4,ae r5]) O<|aa<|ah (v:=.bool r3) O O O<|aa<|ah (v:=ae r4) O O O<|aa<|ah (v:=ae r5) O O O<|asZ (.bool r3) O<|asZ (ae r4) O<|asZ (ae r5) O<|aW<|mvZ (.bool r) O<|mvZ (.bool r3) O<|aa<|pn td4 O O<|mvZ (ae r1) O<|mvZ (ae r5) O<|aa<|clZ O<|da h λr6 h=>mvZ (ae r2) O<|mvZ (ae r4) O<|aa<|clZ O<|da h λr7 h=>aa<|clZ O<|dJ h λr8 r9 h=>aa<|ah (v:=ac r8) O O O<|aa<|ah (v:=iZ r9) O O O<|aa<|ap (aZ 4 O) az dZ O (w:=ac r8) O O O (v:=ac r8) O aT<|asZ (iZ r9) O<|aC<|aS (aZ 4 O) az dZ aY O O (v:=ac r8) O<|aw (v:=iZ r9) O<|aG ?_)))
 exact aJ hrg (VW.tupL<|vZ<|vZ<|vn)<|hQ _ _ h
theorem rv {err:Option Int} {Q:Int->Prop} (h:l9 err Q) (hQ:∀r1,Q r1->R (iZ r1) S) :
  Ctr Tryz.prog 20 [bi 82 err] S R:=by
 refine aK Tryz.func20 rfl Tryz.ntmps20 Tryz.results20 krZ (λrg hrg=>?_)
 refine af<|asZ (iZ 0) O<|nZ<|qZ<|af<|mvZ (bi 82 err) O<|aa<|gA ko (E:=82) O O O<|nZ<|cZ h O (λhb h=>?_) (λhb h=>?_)
 ·exact af<|asZ (iZ 0) O<|aC<|gv1 hrg<|hQ _ h
 refine kZ<|qZ<|af<|mvZ (bi 82 err) O<|aa<|uF gU zn yD O<|mvZ (.tuple [iZ (Option.getD err 0),.bool (Option.isSome err)]) O<|aa<|ah (v:=iZ (Option.getD err 0)) O O O<|aa<|ah (v:=.bool (Option.isSome err)) O O O<|asZ (iZ<|Option.getD err 0) O<|asZ (.bool<|Option.isSome err) O<|aW<|mvZ (.bool<|Option.isSome err) O<|nZ<|cZ h O (λhb1 h=>?_) (λhb1 h=>?_)
 ·exact af<|mvZ (iZ<|Option.getD err 0) O<|asZ (iZ<|Option.getD err 0) O<|aC<|gv1 hrg<|hQ _ h
 exact kZ<|af<|asZ (iZ<|-1) O<|aC<|gv1 hrg<|hQ _ h
theorem qm {a:List Int} {b:List Int} {Q:Bool->Prop} (h:kO a b Q) (hQ:∀r1,Q r1->R (AV.bool r1) S) :
  Ctr Tryz.prog 66 [bn a,bn b] S R:=by
 refine aK Tryz.func66 rfl Tryz.ntmps66 Tryz.results66 krZ (λrg hrg=>?_)
 refine af<|asZ (.bool false) O<|nZ<|qZ<|af<|mvZ (bn a) O<|aa<|aF bm O<|mvZ (bn b) O<|aa<|aF bm O<|aa<|cG O O<|nZ<|cZ h O (λhb h=>?_) (λhb h=>?_)
 ·exact af<|asZ (.bool false) O<|aC<|gv1 hrg<|hQ _ h
 refine kZ<|qZ<|af<|mvZ (bn a) O<|aa<|aF bm O<|mvZ (iZ 0) O<|nZ<|bZ<|lpZ h (λy=>aQ [(0,bn a),(1,bn b),(12,iZ (a.length:Int)),(13,iZ y)]) (λy=>stL S rg []) (an (aA<|fn)<|sn) (λx _ h=>af<|aa<|a9 O O<|nZ<|qZ<|cZ h O (λhb1 h=>?_) (λhb1 h=>?_))
 ·refine kZ<|qZ<|bZ<|af<|mvZ (iZ x) O<|asZ (iZ x) O<|nZ<|qZ<|tkZ h (λhg h=>tkZ h (λhg1 h=>Vc.drawn' bx rg (λ_=>fi) krZ<|dP O O<|au (v:=bn a) O<|dP O O<|au (v:=iZ x) O<|dP O O<|aM bm sz3 dZ (λ_=>O) O O hg<|dP O O<|aN sz3 ag3 O O (v:=iZ (at' a x)) O<|dP O O<|au (v:=bn b) O<|dP O O<|au (v:=iZ x) O<|dP O O<|aM bm sz3 dZ (λ_=>O) O O hg1<|dP O O<|aN sz3 ag3 O O (v:=iZ (at' b x)) O<|dP O O<|cG O O<|dN<|cZ h O (λhb2 h=>?_) (λhb2 h=>?_)))
  ·exact af<|asZ (.bool false) O<|aC<|gv1 hrg<|hQ _ h
  exact kZ<|rZ<|tkZ h (λhg2 h=>aa<|aD O O hg2<|mvZ (iZ<|x+1) O<|nZ<|⟨(x+1),(an (aA<|fn)<|sn),h⟩)
 exact xsZ<|af<|asZ (.bool true) O<|aC<|gv1 hrg<|hQ _ h
end Go.Proofs.YtnjgdkfhgmebjaaGreat
namespace Go.Proofs.YtnjgdkfhgmebjaaGreat
open Go.Gg
set_option maxRecDepth 100000
variable {S:St} {R:AV->St->Prop}
theorem nF {a:GFormula} {b:GFormula} {Q:Bool->Prop} (h:iY a b Q) (hQ:∀r1,Q r1->R (AV.bool r1) S) :
  Ctr Tryz.prog 21 [ay a,ay b] S R:=by
 refine aK Tryz.func21 rfl Tryz.ntmps21 Tryz.results21 krZ (λrg hrg=>?_)
 refine af<|wZ rg<|bs (v:=ay a) O O (kk:=3) O dZ (λg1=>wZ rg<|bs (v:=ay b) O O (kk:=3) O dZ (λg2=>asZ (.bool false) O<|nZ<|qZ<|af<|aa<|aL c8 O<|aa<|ag (aZ 2 O) sz3 ag3 O O (v:=iZ a.Vars) O<|aa<|aL c8 O<|aa<|ag (aZ 3 O) sz3 ag3 O O (v:=iZ b.Vars) O<|aa<|cG O O<|mvZ (.bool<|a.Vars != b.Vars) O<|gfZ h O O (λhb h=>?_) (λhb h=>?_)))
 ·refine aa<|aL kJ O<|gTZ O O hb<|aa<|ag (aZ 2 O) sz3 ag3 O O (v:=iZ a.Top) O<|gTZ O O hb<|aa<|aL kJ O<|gTZ O O hb<|aa<|ag (aZ 3 O) sz3 ag3 O O (v:=iZ b.Top) O<|gTZ O O hb<|aa<|cG O O<|aa<|aI O hb (v:=.bool (a.Top != b.Top)) O<|mvZ (.bool<|a.Top != b.Top) O<|gfZ h O O (λhb1 h=>?_) (λhb1 h=>?_)
  ·refine aa<|aL bB O<|gTZ O O hb1<|aa<|ag (aZ 2 O) dt ec O O (v:=eL bf a.Nodes) O<|gTZ O O hb1<|aa<|aF df O<|gTZ O O hb1<|aa<|aL bB O<|gTZ O O hb1<|aa<|ag (aZ 3 O) dt ec O O (v:=eL bf b.Nodes) O<|gTZ O O hb1<|aa<|aF df O<|gTZ O O hb1<|aa<|cG O O<|aa<|aI O hb1 (v:=.bool ((a.Nodes.length:Int) != (b.Nodes.length:Int))) O (nZ<|cZ h O (λhb2 h=>?_) (λhb2 h=>?_))
   ·exact af<|asZ (.bool false) O<|aC<|gv1 hrg<|hQ _ h
   refine kZ<|qZ<|af<|aa<|aL bB O<|aa<|ag (aZ 2 O) dt ec O O (v:=eL bf a.Nodes) O<|aa<|aF df O<|mvZ (iZ 0) O<|nZ<|bZ<|lpZ h (λy=>aQ [(2,.ptr rg 2 g1 0 0),(3,.ptr rg 3 g2 0 0),(29,iZ (a.Nodes.length:Int)),(30,iZ y)]) (λy=>stL S rg [(2,.arr 3 [ay a],g1),(3,.arr 3 [ay b],g2)]) (an (aA<|fn)<|sc O<|sc O<|sn) (λx _ h=>af<|aa<|a9 O O<|nZ<|qZ<|cZ h O (λhb3 h=>?_) (λhb3 h=>?_))
   ·refine kZ<|qZ<|bZ<|af<|mvZ (iZ x) O<|asZ (iZ x) O<|nZ<|qZ<|tkZ h (λhg h=>tkZ h (λhg1 h=>bcZ h (λhb4 h=>?_) (λhb4 h=>?_)))
    ·exact Vc.drawn' bx rg (λ_=>fi) krZ<|dP O O<|aL bB O<|dL (E:=([(rg,2)],[])) O O (by simp) (cfn) (ag (aZ 2 O) dt ec O O (v:=eL bf a.Nodes) O<|dP O O<|au (v:=iZ x) O<|dP O O<|aM df cE dZ (λ_=>O) O O hg<|dP O O<|faZ eB O O<|dP O O<|aN sz3 ag3 O O (v:=iZ ((at' a.Nodes x).Kind)) O (dP O O<|aL bB O<|dL (E:=([(rg,3)],[])) O O (by simp) (cfa (by simp[aV])<|cfn) (ag (aZ 3 O) dt ec O O (v:=eL bf b.Nodes) O<|dP O O<|au (v:=iZ x) O<|dP O O<|aM df cE dZ (λ_=>O) O O hg1<|dP O O<|faZ eB O O<|dP O O<|aN sz3 ag3 O O (v:=iZ ((at' b.Nodes x).Kind)) O (dP O O<|cG O O<|dP O O<|au (v:=.bool ((at' a.Nodes x).Kind != (at' b.Nodes x).Kind)) O (dGF O O hb4 O<|dGF O O O O<|dGF O O O O<|dGF O O O O<|dGF O O O O<|dGF O O O O<|dGF O O O O<|dGF O O O O<|dGF O O O O<|dGF O O O O<|dGF O O O O<|dGF O O O O<|dGF O O O O<|dP O O<|aH O O (v:=.bool true) O<|dP O O<|au (v:=.bool true) O<|dGF O O O O<|dGF O O O O<|dGF O O O O<|dGF O O O O<|dGF O O O O<|dGF O O O O<|dGF O O O O<|dGF O O O O<|dGF O O O O<|dGF O O O O<|dGF O O O O<|dGF O O O O<|dGF O O O O<|dGF O O O O<|dP O O<|aH O O (v:=.bool true) O<|dN<|cTZ O O<|af<|asZ (.bool false) O<|aC<|gv1 hrg<|hQ _ h)))))
    refine tkZ h (λhg2 h=>tkZ h (λhg3 h=>bcZ h (λhb5 h=>?_) (λhb5 h=>?_)))
    ·refine Vc.drawn' bx rg (λ_=>fi) krZ<|dP O O<|aL bB O<|dL (E:=([(rg,2)],[])) O O (by simp) (cfn) (ag (aZ 2 O) dt ec O O (v:=eL bf a.Nodes) O<|dP O O<|au (v:=iZ x) O<|dP O O<|aM df cE dZ (λ_=>O) O O hg<|dP O O<|faZ eB O O<|dP O O<|aN sz3 ag3 O O (v:=iZ ((at' a.Nodes x).Kind)) O (dP O O<|aL bB O<|dL (E:=([(rg,3)],[])) O O (by simp) (cfa (by simp[aV])<|cfn) (ag (aZ 3 O) dt ec O O (v:=eL bf b.Nodes) O<|dP O O<|au (v:=iZ x) O<|dP O O<|aM df cE dZ (λ_=>O) O O hg1<|dP O O<|faZ eB O O<|dP O O<|aN sz3 ag3 O O (v:=iZ ((at' b.Nodes x).Kind)) O (dP O O<|cG O O<|dP O O<|au (v:=.bool ((at' a.Nodes x).Kind != (at' b.Nodes x).Kind)) O (dGT O O hb4<|dP O O<|aL bB O<|dGT O O O<|dL (E:=([(rg,2)],[])) O O (by simp) (cfo krZ<|cfo krZ<|cfn) (ag (aZ 2 O) dt ec O O (v:=eL bf a.Nodes) O<|dGT O O O<|dP O O<|au (v:=iZ x) O<|dGT O O O<|dP O O<|aM df cE dZ (λ_=>O) O O hg2<|dGT O O O<|dP O O<|faZ dH O O<|dGT O O O<|dP O O<|aN sz3 ag3 O O (v:=iZ ((at' a.Nodes x).K)) O (dGT O O O<|dP O O<|aL bB O<|dGT O O O<|dL (E:=([(rg,3)],[])) O O (by simp) (cfa (by simp[aV])<|cfo krZ<|cfo krZ<|cfn) (ag (aZ 3 O) dt ec O O (v:=eL bf b.Nodes) O<|dGT O O O<|dP O O<|au (v:=iZ x) O<|dGT O O O ?_))))))))
     exact dP O O<|aM df cE dZ (λ_=>O) O O hg3<|dGT O O O<|dP O O<|faZ dH O O<|dGT O O O<|dP O O<|aN sz3 ag3 O O (v:=iZ ((at' b.Nodes x).K)) O (dGT O O O<|dP O O<|cG O O<|dP O O<|aI O O (v:=.bool ((at' a.Nodes x).K != (at' b.Nodes x).K)) O (dP O O<|au (v:=.bool ((at' a.Nodes x).K != (at' b.Nodes x).K)) O (dGF O O hb5 O<|dGF O O O O<|dGF O O O O<|dGF O O O O<|dGF O O O O<|dGF O O O O<|dGF O O O O<|dGF O O O O<|dGF O O O O<|dGF O O O O<|dGF O O O O<|dGF O O O O<|dGF O O O O<|dGF O O O O<|dP O O<|aH O O (v:=.bool true) O<|dN<|cTZ O O<|af<|asZ (.bool false) O<|aC<|gv1 hrg<|hQ _ h)))
    refine tkZ h (λhg4 h=>tkZ h (λhg5 h=>?_))
    obtain⟨r,hc,h⟩:=h
    refine Vc.drawn' bx rg (fp [(41,pc (.bool r))]) krZ<|dP O O<|aL bB O<|dL (E:=([(rg,2)],[])) O O (by simp) (cfn) (ag (aZ 2 O) dt ec O O (v:=eL bf a.Nodes) O<|dP O O<|au (v:=iZ x) O<|dP O O<|aM df cE dZ (λ_=>O) O O hg<|dP O O<|faZ eB O O<|dP O O<|aN sz3 ag3 O O (v:=iZ ((at' a.Nodes x).Kind)) O (dP O O<|aL bB O<|dL (E:=([(rg,3)],[])) O O (by simp) (cfa (by simp[aV])<|cfn) (ag (aZ 3 O) dt ec O O (v:=eL bf b.Nodes) O<|dP O O<|au (v:=iZ x) O<|dP O O<|aM df cE dZ (λ_=>O) O O hg1<|dP O O<|faZ eB O O<|dP O O<|aN sz3 ag3 O O (v:=iZ ((at' b.Nodes x).Kind)) O (dP O O<|cG O O<|dP O O<|au (v:=.bool ((at' a.Nodes x).Kind != (at' b.Nodes x).Kind)) O (dGT O O hb4<|dP O O<|aL bB O<|dGT O O O<|dL (E:=([(rg,2)],[])) O O (by simp) (cfo krZ<|cfo krZ<|cfn) (ag (aZ 2 O) dt ec O O (v:=eL bf a.Nodes) O<|dGT O O O<|dP O O<|au (v:=iZ x) O<|dGT O O O<|dP O O<|aM df cE dZ (λ_=>O) O O hg2<|dGT O O O<|dP O O<|faZ dH O O<|dGT O O O<|dP O O<|aN sz3 ag3 O O (v:=iZ ((at' a.Nodes x).K)) O (dGT O O O<|dP O O<|aL bB O<|dGT O O O<|dL (E:=([(rg,3)],[])) O O (by simp) (cfa (by simp[aV])<|cfo krZ<|cfo krZ<|cfn) (ag (aZ 3 O) dt ec O O (v:=eL bf b.Nodes) O<|dGT O O O<|dP O O<|au (v:=iZ x) O<|dGT O O O ?_))))))))
    refine dP O O<|aM df cE dZ (λ_=>O) O O hg3<|dGT O O O<|dP O O<|faZ dH O O<|dGT O O O<|dP O O<|aN sz3 ag3 O O (v:=iZ ((at' b.Nodes x).K)) O (dGT O O O<|dP O O<|cG O O<|dP O O<|aI O O (v:=.bool ((at' a.Nodes x).K != (at' b.Nodes x).K)) O (dP O O<|au (v:=.bool ((at' a.Nodes x).K != (at' b.Nodes x).K)) O (dGT O O hb5<|dP O O<|aL bB O<|dGT O O O<|dL (E:=([(rg,2)],[])) O O (by simp) (cfo krZ<|cfo krZ<|cfo krZ<|cfo krZ<|cfn) (ag (aZ 2 O) dt ec O O (v:=eL bf a.Nodes) O<|dGT O O O<|dP O O<|au (v:=iZ x) O<|dGT O O O<|dP O O<|aM df cE dZ (λ_=>O) O O hg4<|dGT O O O<|dP O O<|faZ dn O O<|dGT O O O<|dP O O<|aN dg dW O O (v:=bn ((at' a.Nodes x).Args)) O (dGT O O O<|dP O O<|aL bB O<|dGT O O O<|dL (E:=([(rg,3)],[])) O O (by simp) (cfa (by simp[aV])<|cfo krZ<|cfo krZ<|cfo krZ<|cfo krZ<|cfn) (ag (aZ 3 O) dt ec O O (v:=eL bf b.Nodes) O<|dGT O O O<|dP O O<|au (v:=iZ x) O<|dGT O O O<|dP O O<|aM df cE dZ (λ_=>O) O O hg5<|dGT O O O<|dP O O<|faZ dn O O<|dGT O O O<|dP O O<|aN dg dW O O (v:=bn ((at' b.Nodes x).Args)) O (dGT O O O<|dC (vs:=[bn ((at' a.Nodes x).Args),bn ((at' b.Nodes x).Args)]) O (vZ<|vZ<|vn) (λ_=>qm hc (λ_ hr=>⟨by rw[hr],rfl⟩)) O<|dGT O O O<|dP O O<|db O<|dP O O<|aI O O (v:=.bool (!r)) O<|dN ?_)))))))
    refine cZ h O (λhb6 h=>?_) (λhb6 h=>?_)
    ·exact af<|asZ (.bool false) O<|aC<|gv1 hrg<|hQ _ h
    exact kZ<|rZ<|tkZ h (λhg6 h=>aa<|aD O O hg6<|mvZ (iZ<|x+1) O<|nZ<|⟨(x+1),(an (aA<|fn)<|sc O<|sc O<|sn),h⟩)
   exact xsZ<|af<|asZ (.bool true) O<|aC<|gv1 hrg<|hQ _ h
  exact gFZ O O hb1 O<|gFZ O O hb1 O<|gFZ O O hb1 O<|gFZ O O hb1 O<|gFZ O O hb1 O<|gFZ O O hb1 O<|aa<|aH O hb1 (v:=.bool true) O<|nZ<|cTZ O O<|af<|asZ (.bool false) O<|aC<|gv1 hrg<|hQ _ h
 exact gFZ O O hb O<|gFZ O O hb O<|gFZ O O hb O<|gFZ O O hb O<|aa<|aH O hb (v:=.bool true) O<|mvZ (.bool true) O<|gFZ O O O O<|gFZ O O O O<|gFZ O O O O<|gFZ O O O O<|gFZ O O O O<|gFZ O O O O<|gFZ O O O O<|aa<|aH O O (v:=.bool true) O<|nZ<|cTZ O O<|af<|asZ (.bool false) O<|aC<|gv1 hrg<|hQ _ h
end Go.Proofs.YtnjgdkfhgmebjaaGreat
namespace Go.Proofs.YtnjgdkfhgmebjaaGreat
open Go.Gg
set_option maxRecDepth 100000
variable {S:St} {R:AV->St->Prop}
theorem jB {a:GRat} {b:GRat} {Q:GRat->Option Int->Prop} (h:dK a b Q) (hQ:∀r1 r2,Q r1 r2->R (.tuple [ac r1,bi 82 r2]) S) :
  Ctr Tryz.prog 122 [ac a,ac b] S R:=by
 refine aK Tryz.func122 rfl Tryz.ntmps122 Tryz.results122 krZ (λrg hrg=>?_)
 refine af<|wZ rg<|bs (v:=ac a) O O (kk:=3) O dZ (λg1=>wZ rg<|bs (v:=ac b) O O (kk:=3) O dZ (λg2=>wZ rg<|aU bg cb (kk:=3) O (λg3=>asZ .niface O<|aW<|aa<|am (aZ 2 O) az dZ aY O O (v:=ac a) O<|aa<|clZ O<|bV h λr r1 r2 h=>mvZ (.tuple [.bool r,ae r1,ae r2]) O<|aa<|ah (v:=.bool r) O O O<|aa<|ah (v:=ae r1) O O O<|aa<|ah (v:=ae r2) O O O<|asZ (.bool r) O<|asZ (ae r1) O<|asZ (ae r2) O<|aW<|aa<|am (aZ 3 O) az dZ aY O O (v:=ac b) O<|aa<|clZ O<|bV h λr3 r4 r5 h=>mvZ (.tuple [.bool r3,ae r4,ae r5]) O<|aa<|ah (v:=.bool r3) O O O<|aa<|ah (v:=ae r4) O O O<|aa<|ah (v:=ae r5) O O O<|asZ (.bool r3) O<|asZ (ae r4) O<|asZ (ae r5) O<|nZ<|qZ<|af<|mvZ (ae r4) O<|aa<|aF aR O<|aa<|bJ O O<|nZ<|cZ h O (λhb h=>?_) (λhb h=>?_))))
 ·exact af<|aa<|bT kn bg jd i6 az (ps:=[]) O O (v:=.agg [.bool false,.nil,.nil]) O<|aa<|ct (by rw[gU];trivial) (v:=iZ 8) O<|aa<|ap (aZ 4 O) az dZ O (w:=.agg [.bool false,.nil,.nil]) O O O (v:=.agg [.bool false,.nil,.nil]) O aT<|asZ (.iface 82<|iZ 8) O<|aC<|aS (aZ 4 O) az dZ aY O O (v:=.agg [.bool false,.nil,.nil]) O<|aw (v:=.iface 82 (iZ 8)) O<|aG<|aJ hrg (VW.tupL<|vl' (VW.aggL<|vZ<|vl' (VW.nilL)<|vl' (VW.nilL)<|vn)<|vZ<|vn)<|hQ _ _ h
 exact kZ<|af<|mvZ (.bool r) O<|mvZ (.bool r3) O<|aa<|pn td4 O O<|mvZ (ae r1) O<|mvZ (ae r5) O<|aa<|clZ O<|cW h λr6 h=>mvZ (ae r2) O<|mvZ (ae r4) O<|aa<|clZ O<|cW h λr7 h=>aa<|clZ O<|cz h λr8 h=>aa<|ap (aZ 4 O) az dZ O (w:=ac r8) O O O (v:=ac r8) O aT<|asZ .niface O<|aC<|aS (aZ 4 O) az dZ aY O O (v:=ac r8) O<|aw (v:=.niface) O<|aG<|aJ hrg (VW.tupL<|vZ<|vZ<|vn)<|hQ _ _ h
theorem jb {a:GRat} {Q:Int->Prop} (h:ee a Q) (hQ:∀r1,Q r1->R (iZ r1) S) :
  Ctr Tryz.prog 129 [ac a] S R:=by
 refine aK Tryz.func129 rfl Tryz.ntmps129 Tryz.results129 krZ (λrg hrg=>?_)
 refine af<|wZ rg<|bs (v:=ac a) O O (kk:=3) O dZ (λg1=>asZ (iZ 0) O<|aW<|aa<|am (aZ 1 O) az dZ aY O O (v:=ac a) O<|aa<|clZ O<|bV h λr r1 r2 h=>mvZ (.tuple [.bool r,ae r1,ae r2]) O<|aa<|ah (v:=.bool r) O O O<|aa<|ah (v:=ae r1) O O O<|aa<|ah (v:=ae r2) O O O<|asZ (.bool r) O<|asZ (ae r1) O<|asZ (ae r2) O<|nZ<|qZ<|bZ<|af<|mvZ (ae r1) O<|aa<|aF aR O<|aa<|bJ O O<|asZ (.bool<|(r1.length:Int) == 0) O<|nZ<|cZ h O (λhb h=>?_) (λhb h=>?_))
 ·exact af<|asZ (iZ 0) O<|aC<|gv1 hrg<|hQ _ h
 refine af<|mvZ (.bool r) O<|asZ (.bool r) O<|nZ<|cZ h O (λhb1 h=>?_) (λhb1 h=>?_)
 ·exact af<|asZ (iZ<|-1) O<|aC<|gv1 hrg<|hQ _ h
 exact kZ<|af<|asZ (iZ 1) O<|aC<|gv1 hrg<|hQ _ h
theorem ni {a:GRat} {b:GRat} {Q:Int->Prop} (h:eH a b Q) (hQ:∀r1,Q r1->R (iZ r1) S) :
  Ctr Tryz.prog 133 [ac a,ac b] S R:=by
 refine aK Tryz.func133 rfl Tryz.ntmps133 Tryz.results133 krZ (λrg hrg=>?_)
 exact af<|wZ rg<|bs (v:=ac a) O O (kk:=3) O dZ (λg1=>wZ rg<|bs (v:=ac b) O O (kk:=3) O dZ (λg2=>asZ (iZ 0) O<|aW<|aa<|am (aZ 2 O) az dZ aY O O (v:=ac a) O<|aa<|am (aZ 3 O) az dZ aY O O (v:=ac b) O<|aa<|clZ O<|eZ h λr h=>aa<|clZ O<|jb h λr1 h=>asZ (iZ r1) O<|aC<|gv1 hrg<|hQ _ h))
end Go.Proofs.YtnjgdkfhgmebjaaGreat
