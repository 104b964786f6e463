/- Walks of functions. Conditions: none. -/
import Derived.Test.YtcmagbhiioheeaaGreatDoorWa
import Derived.Test.YtcmagbhiioheeaaGreatDoorGgTy
import Derived.Test.YtcmagbhiioheeaaGreatDoorGj
import Derived.Test.YtcmagbhiioheeaaGreatDoorGd
import Derived.Test.YtcmagbhiioheeaaGreatDoorGi
import Derived.Test.YtcmagbhiioheeaaGreatDoorK1
import Derived.Test.YtcmagbhiioheeaaGreatDoorS54f
namespace Go.Proofs.YtcmagbhiioheeaaGreatDoor
open Go.Gg Tryz
set_option maxRecDepth 100000
set_option maxHeartbeats 2000000
variable {S:St} {R:AV->St->Prop}
theorem ox {c:GChain} {Q:List (List Bool)->Prop} (h:fE c Q) (hQ:∀r1,Q r1->R (eL (eL AV.bool) r1) S) :
  Ctr prog 82 [bq c] S R:=by
 refine au func82 rfl ntmps82 results82 krZ (λrg hrg=>?_)
 refine wk 9 λg1 h=>?_
 refine tkZ h (λhg h=>wZ rg<|fW Aw GR F4 yC (kk:=1) O O O hg (λg2=>Wl.fam 1 iZ (K:=15) O dZ (λrf gs hrf nrf=>?_)))
 refine wk 11 λh=>?_
 refine lgZ h gs (λy=>aw [(1,.ptr rg 1 g1 0 0),(3,.sl 1 rg 15 g2 0 y.1.2.length),(17,eL cX c.V),(18,iZ (c.V.length:Int)),(19,iZ y.1.1)]) (λy=>stL (bR S rf 1 iZ y.2 y.1.2) rg [(1,.arr 4 [bq c],g1),(15,.arr 1 (bH rf 1 y.2 y.1.2),g2)]) (canon (fZ<|fc (VW.slen lzZ)<|fZ<|fZ<|fZ<|fn)<|sc O<|sc O<|sn) (λy _ h=>?_)
 obtain⟨⟨x,next1⟩,g3⟩:=y
 refine wk 5 λh=>?_
 refine cZ h O (λhb h=>?_) (λhb h=>?_)
 ·refine wk 10 λg4 h hg1 h=>?_
  refine tkZ h (λhi h=>tkZ h (λhg2 h=>tkZ h (λhi1 h=>Vc.drawn' mixed rg (λ_=>iV) krZ ?_)))
  refine wk 6 λh=>?_
  refine dP O O<|aS Aw ov dZ O O hi<|dL (E:=([(rg,15)],[])) O O zSm (cfo krZ<|cfa zAp eCf) (cy (aZ 15 O) ov Jr O (bn hi lzZ) ?_)
  refine wk 2 λh=>?_
  refine dL (E:=([],[(rg,33)])) O O zSm (cfo krZ<|cfa zAp<|cfa zAp<|cfa zAp eCf) (aV ge ok3 gC (es:=[iZ ((at' c.V x).To)]) O (kk:=1) O O O O O O (λg5=>dL (E:=([(rg,33)],[(rf,Int.toNat ((at' c.V x).D))])) O O zSm (cfo krZ<|cfo krZ<|cfo krZ<|cfo krZ<|cfa (by simp[mH,hrf]) eCf) (AO hrf ge oS ok3 gC (bn hi lzZ) O lzZ (xs:=[(at' c.V x).To]) (enc:=iZ) (bi (aZ 33 O) lzZ) (kk:=1) O O (λ_=>O) (λ_=>O) hg2 O (λg6=>dP O O<|aS Aw ov dZ O O hi1<|dL (E:=([],[(rg,15)])) O O zSm eCf (oD (aZ 15 O) ov O O (bn hi1 lzZ) (l:=(at' next1 ((at' c.V x).D)++[(at' c.V x).To])) O bY ?_)))))
  exact wk 9999 trivial
 refine wk 13 λh=>?_
 refine Vc.mat 6 89 1 O dZ (λg7=>lgZ h g7 (λy=>aw [(1,.ptr rg 1 g1 0 0),(3,.sl 1 rg 15 g2 0 next1.length),(6,.sl 1 rg 89 y.2 0 y.1.2.length),(38,iZ c.H),(39,iZ y.1.1)]) (λy=>stL (bR S rf 1 iZ g3 next1) rg [(1,.arr 4 [bq c],g1),(15,.arr 1 (bH rf 1 g3 next1),g2),(89,.arr 1 (List.map (eL AV.bool) y.1.2),y.2)]) (canon (fZ<|fZ<|fc (VW.slen lzZ)<|fZ<|fZ<|fn)<|sc O<|sc O<|sc O<|sn) (λy _ h=>?_))
 obtain⟨⟨x1,out⟩,g8⟩:=y
 refine wk 5 λh=>?_
 refine cZ h O (λhb1 h=>?_) (λhb1 h=>?_)
 ·refine wk 12 λh=>?_
  refine tkZ h (λhg4 h=>wZ rg<|fg mf wC ok4 (enc:=AV.bool) (z':=false) pt (kk:=1) O O O hg4 (λg9=>?_))
  refine wk 13 λh hi2 h=>?_
  refine wZ rg<|aV ge ok3 gC (es:=[iZ x1]) O (kk:=1) O O O O O O (λg10=>?_)
  refine wk 3 λh=>?_
  refine lgZ h g10 (λy=>aw [(1,.ptr rg 1 g1 0 0),(3,.sl 1 rg 15 g2 0 next1.length),(6,.sl 1 rg 89 g8 0 out.length),(8,.sl 1 rg 44 g9 0 y.1.1.length),(9,.sl 1 rg 49 y.2 0 y.1.2.length),(38,iZ c.H),(39,iZ x1)]) (λy=>stL (bR S rf 1 iZ g3 next1) rg [(1,.arr 4 [bq c],g1),(15,.arr 1 (bH rf 1 g3 next1),g2),(44,.arr 1 (List.map AV.bool y.1.1),g9),(49,.arr 1 (List.map iZ y.1.2),y.2),(89,.arr 1 (List.map (eL AV.bool) out),g8)]) (canon (fZ<|fZ<|fZ<|fc (VW.slen lzZ)<|fZ<|fZ<|fZ<|fn)<|od O O O O<|sc O<|sn) (λy _ h=>?_)
  obtain⟨⟨seen,list⟩,g11⟩:=y
  refine wk 7 λh=>?_
  refine cZ h O (λhb2 h=>?_) (λhb2 h=>?_)
  ·refine wk 18 λh hg5 h hi3 h hg6 h=>?_
   refine tkZ h (λhsl h=>am<|zu ge sz3 dZ O (h:=((list.length:Int)-1)) O hsl (stZ h (λlist1 hs h=>?_)))
   have hl:list1.length=(Int.toNat ((list.length:Int)-1)):=by rw[hs,List.length_take];omega
   refine wk 1 λh=>?_
   refine dr (EWk.cut (Int.toNat<|(list.length:Int)-1) (aZ 49 O) hs.symm bY) ?_
   refine wk 6 λh hi4 h=>?_
   refine wZ rg<|cy (aZ 15 O) ov Jr O (bn hi4 lzZ) ?_
   refine wk 4 λh=>?_
   refine lgZ h g11 (λy=>aw [(1,.ptr rg 1 g1 0 0),(3,.sl 1 rg 15 g2 0 next1.length),(6,.sl 1 rg 89 g8 0 out.length),(8,.sl 1 rg 44 g9 0 y.1.2.1.length),(9,.sl 1 rg 49 y.2 0 y.1.2.2.length),(38,iZ c.H),(39,iZ x1),(67,.sl 1 rf (Int.toNat<|at' list<|(list.length:Int)-1) (g3<|Int.toNat<|at' list<|(list.length:Int)-1) 0 ((at' next1<|at' list<|(list.length:Int)-1).length)),(68,iZ ((at' next1<|at' list<|(list.length:Int)-1).length:Int)),(69,iZ y.1.1)]) (λy=>stL (bR S rf 1 iZ g3 next1) rg [(1,.arr 4 [bq c],g1),(15,.arr 1 (bH rf 1 g3 next1),g2),(44,.arr 1 (List.map AV.bool y.1.2.1),g9),(49,.arr 1 (List.map iZ y.1.2.2),y.2),(89,.arr 1 (List.map (eL AV.bool) out),g8)]) (canon (gb<|fc (VW.slen lzZ)<|gb<|fZ<|fn)<|od O O O O<|sc O<|sn) (λy _ h=>?_)
   obtain⟨⟨x2,seen1,list2⟩,g12⟩:=y
   refine wk 5 λh=>?_
   refine cZ h O (λhb3 h=>?_) (λhb3 h=>?_)
   ·refine wk 6 λh hi5 h=>?_
    refine am<|uW (cW hrf) sz3 ag3 O (bn hi5 lzZ) O (v:=iZ (at' (at' next1<|at' list<|(list.length:Int)-1) x2)) O (stZ h (λto hs1 h=>wZ rg<|bT (v:=iZ to) (by subst hs1;rfl) ?_))
    refine wk 9 λh hi6 h=>?_
    refine cZ h O (λhb4 h=>?_) (λhb4 h=>?_)
    ·refine wk 10 λh hi7 h=>?_
     refine wZ rg<|aV ge ok3 gC (es:=[iZ to]) O (kk:=1) O O O O O O (λg13=>tkZ h (λhg7 h=>wZ rg<|cu ge oS ok3 gC (es:=list2) (xs:=[to]) (enc:=iZ) (aZ 49 O) lzZ (bi (aZ 83 O) lzZ) (kk:=1) O O (λ_=>O) (λ_=>O) hg7 O (λ_=>bY) (λg14=>?_)))
     exact wk 9999 trivial
    exact wk 9999 trivial
   exact wk 9999 trivial
  refine wk 4 λh=>?_
  refine dr (aW (k:=44) (xs:=List.map AV.bool seen) O (es:=[(1,.ptr rg 1 g1 0 0),(3,.sl 1 rg 15 g2 0 next1.length),(38,iZ c.H),(39,iZ x1),(86,.sl 1 rg 89 g8 0 out.length),(87,eL AV.bool seen)]) (fZ<|fc (fT O)<|fZ<|fZ<|fc (fT O)<|fc (aL O)<|fn) (m:=[(1,.arr 4 [bq c],g1),(15,.arr 1 (bH rf 1 g3 next1),g2),(89,.arr 1 (List.map (eL AV.bool) out),g8)]) (sc O<|sc O<|sc O<|sn)) (wZ rg<|aV Bt HP Bg (es:=[eL AV.bool seen]) O (kk:=1) O O O O O O (λg16=>tkZ h (λhg10 h=>wZ rg<|cu Bt PC HP Bg (es:=out) (xs:=[seen]) (enc:=eL AV.bool) (aZ 89 O) lzZ (bi (aZ 88 O) lzZ) (kk:=1) O O (λ_=>O) (λ_=>O) hg10 O (λ_=>bY) (λg17=>?_))))
  exact wk 9999 trivial
 refine wk 6 λh=>?_
 exact uZ<|aj (v:=.sl 1 rg 89 g8 0 out.length) O<|aq<|zP hrf nrf<|aP (k:=89) (xs:=List.map (eL AV.bool) out) O (v':=eL (eL AV.bool) out) (aL O)<|goZ hrg<|hQ _ h
theorem iW {c:GChain} {Q:List (List Int)->Prop} (h:dR c Q) (hQ:∀r1,Q r1->R (eL cp r1) S) :
  Ctr prog 41 [bq c] S R:=by
 refine au func41 rfl ntmps41 results41 krZ (λrg hrg=>?_)
 refine wk 8 λg1 h=>?_
 refine am<|clZ O<|ox h λr h=>?_
 refine wk 14 λh=>?_
 refine Vc.mat 4 53 1 O dZ (λg2=>lgZ h g2 (λy=>aw [(3,eL (eL AV.bool) r),(4,.sl 1 rg 53 y.2 0 y.1.2.length),(13,eL (eL AV.bool) r),(14,iZ (r.length:Int)),(15,iZ y.1.1)]) (λy=>stL S rg [(53,.arr 1 (List.map cp y.1.2),y.2)]) (canon (fZ<|fc (VW.slen lzZ)<|fZ<|fZ<|fZ<|fn)<|sc O<|sn) (λy _ h=>?_))
 obtain⟨⟨x,out⟩,g3⟩:=y
 refine wk 5 λh=>?_
 refine cZ h O (λhb h=>?_) (λhb h=>?_)
 ·refine wk 27 λh hg h=>?_
  refine Vc.mat 7 47 1 O dZ (λg4=>lgZ h (g4,g3) (λy=>aw [(3,eL (eL AV.bool) r),(4,.sl 1 rg 53 y.2.2 0 out.length),(5,iZ x),(7,.sl 1 rg 47 y.2.1 0 y.1.2.2.length),(8,.bool y.1.1),(13,eL (eL AV.bool) r),(14,iZ (r.length:Int)),(15,iZ x),(20,eL AV.bool (at' r x)),(21,iZ ((at' r x).length:Int)),(22,iZ y.1.2.1)]) (λy=>stL S rg [(47,.arr 1 (List.map iZ y.1.2.2),y.2.1),(53,.arr 1 (List.map cp out),y.2.2)]) (canon (fZ<|fZ<|fZ<|fc (VW.slen lzZ)<|gb<|fZ<|fZ<|fZ<|fn)<|sc O<|sc O<|sn) (λy _ h=>?_))
  obtain⟨⟨ok,x1,class1⟩,⟨g5,g6⟩⟩:=y
  refine wk 5 λh=>?_
  refine cZ h O (λhb1 h=>?_) (λhb1 h=>?_)
  ·refine wk 17 λh hg1 h=>?_
   refine cZ h O (λhb2 h=>?_) (λhb2 h=>?_)
   ·exact wk 9999 trivial
   refine kZ<|jgZ (γ:=Nat×Nat) h (λy=>aw [(3,eL (eL AV.bool) r),(4,.sl 1 rg 53 y.2.2 0 out.length),(5,iZ x),(7,.sl 1 rg 47 y.2.1 0 class1.length),(8,.bool y.1),(9,iZ x1),(13,eL (eL AV.bool) r),(14,iZ (r.length:Int)),(15,iZ x),(20,eL AV.bool (at' r x)),(21,iZ ((at' r x).length:Int)),(22,iZ x1)]) (λy=>stL S rg [(47,.arr 1 (List.map iZ class1),y.2.1),(53,.arr 1 (List.map cp out),y.2.2)]) (λy h=>?_) (λ_ h=>?_)
   ·obtain⟨ok1,⟨g7,g8⟩⟩:=y
    refine wk 3 λh=>?_
    refine wZ rg<|aV ge ok3 gC (es:=[iZ x1]) O (kk:=1) O O O O O O (λg9=>tkZ h (λhg3 h=>wZ rg<|cu ge oS ok3 gC (es:=class1) (xs:=[x1]) (enc:=iZ) (aZ 47 O) lzZ (bi (aZ 46 O) lzZ) (kk:=1) O O (λ_=>O) (λ_=>O) hg3 O (λ_=>bY) (λg10=>?_)))
    exact wk 9999 trivial
   exact wk 9999 trivial
  refine wk 5 λh=>?_
  refine cZ h O (λhb5 h=>?_) (λhb5 h=>?_)
  ·refine wk 3 λh=>?_
   refine dr (aW (k:=47) (xs:=List.map iZ class1) O (es:=[(3,eL (eL AV.bool) r),(13,eL (eL AV.bool) r),(14,iZ (r.length:Int)),(15,iZ x),(50,.sl 1 rg 53 g6 0 out.length),(51,cp class1)]) (gb<|fc (fT O)<|fc (aL O)<|fn) (m:=[(53,.arr 1 (List.map cp out),g6)]) (sc O<|sn)) (wZ rg<|aV Aw F4 yC (es:=[cp class1]) O (kk:=1) O O O O O O (λg12=>tkZ h (λhg7 h=>wZ rg<|cu Aw GR F4 yC (es:=out) (xs:=[class1]) (enc:=cp) (aZ 53 O) lzZ (bi (aZ 52 O) lzZ) (kk:=1) O O (λ_=>O) (λ_=>O) hg7 O (λ_=>bY) (λg13=>?_))))
   exact wk 9999 trivial
  exact wk 9999 trivial
 refine wk 6 λh=>?_
 exact uZ<|aj (v:=.sl 1 rg 53 g3 0 out.length) O<|aq<|aP (k:=53) (xs:=List.map cp out) O (v':=eL cp out) (aL O)<|goZ hrg<|hQ _ h
theorem jG {c:GChain} {Q:List GRat->Option Int->Prop} (h:cE c Q) (hQ:∀r1 r2,Q r1 r2->R (.tuple [eL af r1,cw 39 r2]) S) :
  Ctr prog 13 [bq c] S R:=by
 refine au func13 rfl ntmps13 results13 krZ (λrg hrg=>?_)
 refine wk 10 λg1 h=>?_
 refine am<|clZ O<|ko h λe h=>?_
 refine wk 7 λh=>?_
 refine cZ h O (λhb h=>?_) (λhb h=>?_)
 ·refine wk 6 λh=>?_
  exact uZ<|aj (v:=.nil) O<|aj (v:=cw 39 e) O<|aq<|ar hrg (VW.tupL<|vl' (VW.nilL)<|vZ<|vn)<|hQ _ _ h
 refine wk 4 λh=>?_
 refine am<|clZ O<|iW h λl h=>?_
 refine wk 9 λh=>?_
 refine cZ h O (λhb1 h=>?_) (λhb1 h=>?_)
 ·refine wk 6 λh=>?_
  exact uZ<|aj (v:=.nil) O<|aj (v:=.iface 39 (iZ 16)) O<|aq<|ar hrg (VW.tupL<|vl' (VW.nilL)<|vZ<|vn)<|hQ _ _ h
 refine wk 16 λh hg h=>?_
 refine wZ rg<|mR (enc:=iZ) te sd trivial (λg2=>?_)
 refine wk 10 λh=>?_
 refine lpZ h (λy=>aw [(1,.ptr rg 1 g1 0 0),(6,cp (at' l 0)),(7,iZ ((at' l 0).length:Int)),(8,.map rg 41 g2),(42,cp (at' l 0)),(43,iZ ((at' l 0).length:Int)),(44,iZ y.1)]) (λy=>stL S rg [(1,.arr 4 [bq c],g1),(41,aC iZ (.one .i64) y.2,g2)]) eCa (λy _ h=>?_)
 obtain⟨x,x1⟩:=y
 refine wk 5 λh=>?_
 refine cZ h O (λhb2 h=>?_) (λhb2 h=>?_)
 ·refine wk 15 λh hg1 h=>?_
  refine am<|oE (v:=x) (aZ 41 O) te sd O O O bY ?_
  exact wk 9999 trivial
 refine wk 4 λh=>?_
 refine tkZ h (λhg3 h=>wZ rg<|fW iR Co F5 yD (kk:=1) O O O hg3 (λg3=>Wl.fam 3 af (K:=54) O dZ (λrf gs hrf nrf=>?_)))
 refine wk 10 λh=>?_
 refine lgZ h gs (λy=>aw [(1,.ptr rg 1 g1 0 0),(6,cp (at' l 0)),(7,iZ ((at' l 0).length:Int)),(8,.map rg 41 g2),(11,.sl 1 rg 54 g3 0 y.1.2.length),(56,iZ ((Int.toNat ((at' l 0).length:Int)):Int)),(57,iZ y.1.1)]) (λy=>stL (bR S rf 3 af y.2 y.1.2) rg [(1,.arr 4 [bq c],g1),(41,aC iZ (.one .i64) x1,g2),(54,.arr 1 (bH rf 3 y.2 y.1.2),g3)]) (canon (gb<|fc (VW.slen lzZ)<|fZ<|fZ<|fn)<|sc O<|sc O<|sc O<|sn) (λy _ h=>?_)
 obtain⟨⟨x2,a⟩,g4⟩:=y
 refine wk 5 λh=>?_
 refine cZ h O (λhb3 h=>?_) (λhb3 h=>?_)
 ·refine wk 12 λh=>?_
  refine tkZ h (λhg4 h=>wZ rg<|fW df iM iT cx (kk:=3) O O O hg4 (λg5=>dr (EWk.ow (k:=63) (o':=.arr 3 (List.map af<|aQ ((at' l 0).length:Int) (⟨false,[],[]⟩:GRat))) O (OW.rep<|VWL.vwc<|vZ<|vl' (VW.nilL)<|vl' (VW.nilL)<|vn)) ?_))
  refine wk 1 λh hi h=>?_
  refine dr (canon (es:=[(1,.ptr rg 1 g1 0 0),(6,cp (at' l 0)),(7,iZ ((at' l 0).length:Int)),(8,.map rg 41 g2),(11,.sl 1 rg 54 g3 0 a.length),(56,iZ ((Int.toNat ((at' l 0).length:Int)):Int)),(57,iZ x2),(63,.sl 3 rg 63 g5 0 (Int.toNat ((at' l 0).length:Int))),(64,.ptr rg 54 g3 (Int.toNat x2) 0)]) (m:=[(63,.arr 3 (List.map af<|aQ ((at' l 0).length:Int) (⟨false,[],[]⟩:GRat)),g5),(1,.arr 4 [bq c],g1),(41,aC iZ (.one .i64) x1,g2),(54,.arr 1 (bH rf 3 g4 a),g3)]) (gb<|gb<|fZ<|fn) (od O O O O<|sn)) (Wl.famPt 63 x2 hrf (bn hi lzZ) O (λg6=>[(1,.ptr rg 1 g1 0 0),(6,cp (at' l 0)),(7,iZ ((at' l 0).length:Int)),(8,.map rg 41 g2),(11,.sl 1 rg 54 g3 0 a.length),(56,iZ ((Int.toNat ((at' l 0).length:Int)):Int)),(57,iZ x2),(63,.sl 3 rf (Int.toNat x2) g6 0 ((aQ ((at' l 0).length:Int) (⟨false,[],[]⟩:GRat)).length)),(64,.ptr rg 54 g3 (Int.toNat x2) 0)]) [(1,.arr 4 [bq c],g1),(41,aC iZ (.one .i64) x1,g2),(54,.arr 1 (bH rf 3 g4 a),g3)] O (λ_=>⟨nu,nu,nu,nu,nu,nu,nu,Xl (Xk<|VW.slen lzZ) (CL 0 O),nu,trivial⟩) (λg6=>wZ rg<|oD (aZ 54 O) dh O O (bn hi lzZ) (l:=(aQ ((at' l 0).length:Int) (⟨false,[],[]⟩:GRat))) O bY ?_))
  exact wk 9999 trivial
 refine wk 10 λh=>?_
 refine lgZ h g4 (λy=>aw [(1,.ptr rg 1 g1 0 0),(6,cp (at' l 0)),(7,iZ ((at' l 0).length:Int)),(8,.map rg 41 g2),(11,.sl 1 rg 54 g3 0 y.1.2.length),(67,eL cX c.V),(68,iZ (c.V.length:Int)),(69,iZ y.1.1)]) (λy=>stL (bR S rf 3 af y.2 y.1.2) rg [(1,.arr 4 [bq c],g1),(41,aC iZ (.one .i64) x1,g2),(54,.arr 1 (bH rf 3 y.2 y.1.2),g3)]) eCa (λy _ h=>?_)
 obtain⟨⟨x3,a1⟩,g7⟩:=y
 refine wk 5 λh=>?_
 refine cZ h O (λhb4 h=>?_) (λhb4 h=>?_)
 ·refine wk 15 λg8 h hg6 h=>?_
  refine am<|pf (aZ 41 O) te sd ok3 (z:=0) gC O O ?_
  refine wk 3 λh=>?_
  refine stZ h (λfrom1 hs h=>wZ rg<|bT (v:=iZ from1) (by subst hs;rfl) ?_)
  refine wk 8 λh=>?_
  refine cZ h O (λhb5 h=>?_) (λhb5 h=>?_)
  ·exact wk 9999 trivial
  refine wk 6 λh=>?_
  refine am<|rT (aZ 41 O) te sd ok3 (z:=0) gC O O<|stZ h (λto hs1 h=>wZ rg<|bT (v:=iZ to) (by subst hs1;rfl)<|nZ<|qZ<|tkZ h (λhi1 h=>tkZ h (λhi2 h=>tkZ h (λhi3 h=>?_))))
  obtain⟨r,hc,h⟩:=h
  refine tkZ h (λhi4 h=>Vc.drawn' mixed rg (gd [(14,pc (af r))]) krZ ?_)
  refine wk 2 λh=>?_
  refine dP O O<|aS iR dh dZ O O hi1<|dL (E:=([(rg,54)],[])) O O zSm eCf (cy (aZ 54 O) dh jR O (bn hi1 lzZ) ?_)
  refine wk 3 λh=>?_
  refine dP O O<|aS iR dh dZ O O hi2<|dL (E:=([(rg,54)],[])) O O zSm (cfa zAp eCf) (cy (aZ 54 O) dh jR O (bn hi2 lzZ) ?_)
  refine wk 1 λh=>?_
  refine dP O O<|aS df bf dZ O O hi3<|dL (E:=([(rf,Int.toNat from1)],[])) O O zSm (cfo krZ<|cfa zAp eCf) (gT (cW hrf) bf dZ dT O (bn hi3 lzZ) O (v:=af (at' (at' a1 from1) from1)) O (dP O O<|Dj so O<|dL (E:=([(rg,14)],[])) O O zSm (cfa zAp<|cfa zAp<|cfa zAp eCf) (cG (aZ 14 O) bf dZ dT O O (v:=af ((at' c.V x3).X)) O (dC (vs:=[af (at' (at' a1 from1) from1),af ((at' c.V x3).X)]) O (vZ<|vZ<|vn) (λ_=>dm hc (λ_ hr=>⟨by rw[hr],rfl⟩)) O<|dP O O<|aS df bf dZ O O hi4<|dL (E:=([],[(rf,Int.toNat from1)])) O O zSm eCf (dH (cW hrf) bf dZ (x':=r) (λ_=>O) O O (bn hi4 lzZ) O O (jk hrf<|bn hi1 lzZ)<|dN<|oV (EWk.famKeep (K:=54) O (m:=from1) (l:=(aN (at' a1 from1) from1 r)) lzZ) (tkZ h (λhi5 h=>tkZ h (λhi6 h=>tkZ h (λhi7 h=>?_)))))))))
  obtain⟨r1,hc1,h⟩:=h
  refine tkZ h (λhi8 h=>Vc.drawn' mixed rg (gd [(14,pc (af r1))]) krZ ?_)
  refine wk 2 λh=>?_
  refine dP O O<|aS iR dh dZ O O hi5<|dL (E:=([(rg,54)],[])) O O zSm eCf (cy (aZ 54 O) dh jR O (bn hi5 lzZ) ?_)
  refine wk 3 λh=>?_
  refine dP O O<|aS iR dh dZ O O hi6<|dL (E:=([(rg,54)],[])) O O zSm (cfa zAp eCf) (cy (aZ 54 O) dh jR O (bn hi6 lzZ) ?_)
  refine wk 1 λh=>?_
  refine dP O O<|aS df bf dZ O O hi7<|dL (E:=([(rf,Int.toNat to)],[])) O O zSm (cfo krZ<|cfa zAp eCf) (gT (cW hrf) bf dZ dT O (bn hi7 lzZ) O (v:=af (at' (at' (aN a1 from1<|aN (at' a1 from1) from1 r) to) from1)) O (dP O O<|Dj so O<|dL (E:=([(rg,14)],[])) O O zSm (cfa zAp<|cfa zAp<|cfa zAp eCf) (cG (aZ 14 O) bf dZ dT O O (v:=af ((at' c.V x3).X)) O (dC (vs:=[af (at' (at' (aN a1 from1<|aN (at' a1 from1) from1 r) to) from1),af ((at' c.V x3).X)]) O (vZ<|vZ<|vn) (λ_=>bE hc1 (λ_ hr=>⟨by rw[hr],rfl⟩)) O<|dP O O<|aS df bf dZ O O hi8<|dL (E:=([],[(rf,Int.toNat to)])) O O zSm eCf (dH (cW hrf) bf dZ (x':=r1) (λ_=>O) O O (bn hi8 lzZ) O O (jk hrf<|bn hi5 lzZ)<|dN<|oV (EWk.famKeep (K:=54) O (m:=to) (l:=(aN (at' (aN a1 from1<|aN (at' a1 from1) from1 r) to) from1 r1)) lzZ) ?_)))))
  exact wk 9999 trivial
 refine wk 4 λh=>?_
 refine tkZ h (λhg9 h=>wZ rg<|fW df iM iT cx (kk:=3) O O O hg9 (λg9=>dr (EWk.ow (k:=120) (o':=.arr 3 (List.map af<|aQ ((at' l 0).length:Int) (⟨false,[],[]⟩:GRat))) O (OW.rep<|VWL.vwc<|vZ<|vl' (VW.nilL)<|vl' (VW.nilL)<|vn)) ?_))
 refine wk 7 λh hg10 h=>?_
 refine am<|clZ O<|co h λr2 h=>?_
 refine wk 1 λh hi9 h=>?_
 refine am<|dH (aZ 120 O) bf dZ (x':=r2) (λ_=>O) O O (bn hi9 lzZ) O O bY ?_
 refine wk 8 λh hg11 h hi10 h=>?_
 refine wZ rg<|cy (aZ 54 O) dh jR O (bn hi10 lzZ) ?_
 refine wk 4 λh=>?_
 refine lgZ h g7 (λy=>aw [(1,.ptr rg 1 g1 0 0),(6,cp (at' l 0)),(7,iZ ((at' l 0).length:Int)),(11,.sl 1 rg 54 g3 0 y.1.2.length),(18,.sl 3 rg 120 g9 0 (Int.toNat ((at' l 0).length:Int))),(131,iZ ((at' a1<|((at' l 0).length:Int)-1).length:Int)),(132,iZ y.1.1)]) (λy=>stL (bR S rf 3 af y.2 y.1.2) rg [(1,.arr 4 [bq c],g1),(54,.arr 1 (bH rf 3 y.2 y.1.2),g3),(120,.arr 3 (List.map af<|aN (aQ ((at' l 0).length:Int) (⟨false,[],[]⟩:GRat)) (((at' l 0).length:Int)-1) r2),g9)]) eCa (λy _ h=>?_)
 obtain⟨⟨x4,a2⟩,g10⟩:=y
 refine wk 5 λh=>?_
 refine cZ h O (λhb6 h=>?_) (λhb6 h=>?_)
 ·refine wk 8 λh=>?_
  refine tkZ h (λhg12 h=>tkZ h (λhi11 h=>?_))
  obtain⟨r3,hc2,h⟩:=h
  refine tkZ h (λhi12 h=>Vc.drawn' mixed rg (gd [(6,pc (af r3))]) krZ ?_)
  refine wk 2 λh=>?_
  refine dP O O<|jY O O hg12<|dP O O<|aS iR dh dZ O O hi11<|dL (E:=([(rg,54)],[])) O O zSm eCf (cy (aZ 54 O) dh jR O (bn hi11 lzZ) ?_)
  refine wk 1 λh=>?_
  refine dC (vs:=[iZ 1]) O (vZ<|vn) (λ_=>co hc2 (λ_ hr=>⟨by rw[hr],rfl⟩)) O<|dP O O<|aS df bf dZ O O hi12<|dL (E:=([],[(rf,Int.toNat (((at' l 0).length:Int)-1))])) O O zSm eCf (dH (cW hrf) bf dZ (x':=r3) (λ_=>O) O O (bn hi12 lzZ) O O (jk hrf<|bn hi11 lzZ)<|dN<|oV (EWk.famKeep (K:=54) O (m:=(((at' l 0).length:Int)-1)) (l:=(aN (at' a2<|((at' l 0).length:Int)-1) x4 r3)) lzZ) ?_)
  exact wk 9999 trivial
 refine wk 5 λh=>?_
 refine dr (EWk.unfam hrf nrf (K:=54) O)<|dr (aW (k:=54) (xs:=List.map (eL af) a2) O (es:=[(1,.ptr rg 1 g1 0 0),(6,cp (at' l 0)),(145,eL (eL af) a2),(146,.sl 3 rg 120 g9 0 (Int.toNat ((at' l 0).length:Int)))]) (fZ<|fZ<|fc (aL O)<|fc (fT O)<|fn) (m:=[(1,.arr 4 [bq c],g1),(120,.arr 3 (List.map af<|aN (aQ ((at' l 0).length:Int) (⟨false,[],[]⟩:GRat)) (((at' l 0).length:Int)-1) r2),g9)]) (sc O<|sc O<|sn)) (dr (aW (k:=120) (xs:=List.map af (aN (aQ ((at' l 0).length:Int) (⟨false,[],[]⟩:GRat)) (((at' l 0).length:Int)-1) r2)) O (es:=[(1,.ptr rg 1 g1 0 0),(6,cp (at' l 0)),(145,eL (eL af) a2),(146,eL af (aN (aQ ((at' l 0).length:Int) (⟨false,[],[]⟩:GRat)) (((at' l 0).length:Int)-1) r2))]) (fZ<|fZ<|fZ<|fc (aL lzZ)<|fn) (m:=[(1,.arr 4 [bq c],g1)]) (sc O<|sn)) (am<|clZ O<|mU h λr4 r5 h=>?_))
 refine wk 12 λh=>?_
 refine cZ h O (λhb7 h=>?_) (λhb7 h=>?_)
 ·refine wk 6 λh=>?_
  exact uZ<|aj (v:=.nil) O<|aj (v:=cw 39 r5) O<|aq<|ar hrg (VW.tupL<|vl' (VW.nilL)<|vZ<|vn)<|hQ _ _ h
 refine wk 5 λh=>?_
 refine tkZ h (λhg14 h=>wZ rg<|fW df iM iT cx (kk:=3) O O O hg14 (λg11=>dr (EWk.ow (k:=155) (o':=.arr 3 (List.map af<|aQ c.H (⟨false,[],[]⟩:GRat))) O (OW.rep<|VWL.vwc<|vZ<|vl' (VW.nilL)<|vl' (VW.nilL)<|vn)) ?_))
 refine wk 10 λh=>?_
 refine lpZ h (λy=>aw [(20,eL af r4),(22,.sl 3 rg 155 g11 0 y.2.length),(156,cp (at' l 0)),(157,iZ ((at' l 0).length:Int)),(158,iZ y.1)]) (λy=>stL S rg [(155,.arr 3 (List.map af y.2),g11)]) (canon (fZ<|fc (VW.slen lzZ)<|fZ<|fZ<|fZ<|fn)<|sc O<|sn) (λy _ h=>?_)
 obtain⟨x5,out⟩:=y
 refine wk 5 λh=>?_
 refine cZ h O (λhb8 h=>?_) (λhb8 h=>?_)
 ·refine wk 19 λh hg15 h hg16 h hi13 h=>?_
  refine am<|dH (aZ 155 O) bf dZ (x':=(at' r4 x5)) (λ_=>O) O O (bn hi13 lzZ) O O bY ?_
  exact wk 9999 trivial
 refine wk 7 λh=>?_
 exact uZ<|aj (v:=.sl 3 rg 155 g11 0 out.length) O<|aj (v:=.niface) O<|aq<|aP (k:=155) (xs:=List.map af out) O (v':=.tuple [eL af out,.niface]) (VW.tupL<|vl' (aL O)<|vZ<|vn)<|ar hrg eVw<|hQ _ _ h
theorem nk {x:GRat} {Q:Bool->Prop} (h:gg x Q) (hQ:∀r1,Q r1->R (AV.bool r1) S) :
  Ctr prog 86 [af x] S R:=by
 refine au func86 rfl ntmps86 results86 krZ (λrg hrg=>?_)
 refine wk 8 λg1 h=>?_
 refine am<|clZ O<|ey h λr h=>?_
 refine wk 3 λh=>?_
 exact uZ<|gv1 hrg<|hQ _ h
theorem di {s:List GRat} {Q:Int->Prop} (h:bj s Q) (hQ:∀r1,Q r1->R (iZ r1) S) :
  Ctr prog 110 [eL af s,.fn (.func 86) [] []] S R:=by
 refine au func110 rfl ntmps110 results110 krZ (λrg hrg=>?_)
 refine wk 12 λh=>?_
 refine lpZ h (λy=>aw [(0,eL af s),(1,.fn (.func 86) [] []),(7,iZ (s.length:Int)),(8,iZ y)]) (λy=>stL S rg []) eCa (λx _ h=>?_)
 refine wk 5 λh=>?_
 refine cZ h O (λhb h=>?_) (λhb h=>?_)
 ·refine wk 15 λh hg h=>?_
  refine am<|clZ O<|nk h λr h=>nZ<|cZ h O (λhb1 h=>?_) (λhb1 h=>?_)
  ·refine wk 5 λh=>?_
   exact uZ<|gv1 hrg<|hQ _ h
  exact wk 9999 trivial
 refine wk 5 λh=>?_
 exact uZ<|gv1 hrg<|hQ _ h
theorem c_ {s:List GRat} {Q:Bool->Prop} (h:be s Q) (hQ:∀r1,Q r1->R (AV.bool r1) S) :
  Ctr prog 67 [eL af s,.fn (.func 86) [] []] S R:=by
 refine au func67 rfl ntmps67 results67 krZ (λrg hrg=>?_)
 refine wk 8 λh=>?_
 refine am<|clZ O<|di h λr h=>?_
 refine wk 3 λh=>?_
 exact uZ<|gv1 hrg<|hQ _ h
theorem jF {c:GChain} {dist:List GRat} {Q:Option Int->Prop} (h:eh c dist Q) (hQ:∀r1,Q r1->R (cw 39 r1) S) :
  Ctr prog 43 [bq c,eL af dist] S R:=by
 refine au func43 rfl ntmps43 results43 krZ (λrg hrg=>?_)
 refine wk 9 λg1 h=>?_
 refine am<|clZ O<|ko h λe h=>?_
 refine wk 7 λh=>?_
 refine cZ h O (λhb h=>?_) (λhb h=>?_)
 ·refine wk 5 λh=>?_
  exact uZ<|gv1 hrg<|hQ _ h
 refine wk 10 λh=>?_
 refine cZ h O (λhb1 h=>?_) (λhb1 h=>?_)
 ·refine wk 5 λh=>?_
  exact uZ<|gv1 hrg<|hQ _ h
 refine wk 5 λh=>?_
 refine am<|clZ O<|c_ h λr h=>nZ<|cZ h O (λhb2 h=>?_) (λhb2 h=>?_)
 ·refine wk 5 λh=>?_
  exact uZ<|gv1 hrg<|hQ _ h
 refine wk 5 λh=>?_
 exact uZ<|gv1 hrg<|hQ _ h
theorem lO {x:GRat} {Q:Bool->Prop} (h:fm x Q) (hQ:∀r1,Q r1->R (AV.bool r1) S) :
  Ctr prog 87 [af x] S R:=by
 refine au func87 rfl ntmps87 results87 krZ (λrg hrg=>?_)
 refine wk 8 λg1 h=>?_
 refine am<|clZ O<|bw h λr h=>?_
 refine wk 3 λh=>?_
 exact uZ<|gv1 hrg<|hQ _ h
theorem cY {s:List GRat} {Q:Int->Prop} (h:bc s Q) (hQ:∀r1,Q r1->R (iZ r1) S) :
  Ctr prog 110 [eL af s,.fn (.func 87) [] []] S R:=by
 refine au func110 rfl ntmps110 results110 krZ (λrg hrg=>?_)
 refine wk 12 λh=>?_
 refine lpZ h (λy=>aw [(0,eL af s),(1,.fn (.func 87) [] []),(7,iZ (s.length:Int)),(8,iZ y)]) (λy=>stL S rg []) eCa (λx _ h=>?_)
 refine wk 5 λh=>?_
 refine cZ h O (λhb h=>?_) (λhb h=>?_)
 ·refine wk 15 λh hg h=>?_
  refine am<|clZ O<|lO h λr h=>nZ<|cZ h O (λhb1 h=>?_) (λhb1 h=>?_)
  ·refine wk 5 λh=>?_
   exact uZ<|gv1 hrg<|hQ _ h
  exact wk 9999 trivial
 refine wk 5 λh=>?_
 exact uZ<|gv1 hrg<|hQ _ h
theorem cL {s:List GRat} {Q:Bool->Prop} (h:aY s Q) (hQ:∀r1,Q r1->R (AV.bool r1) S) :
  Ctr prog 67 [eL af s,.fn (.func 87) [] []] S R:=by
 refine au func67 rfl ntmps67 results67 krZ (λrg hrg=>?_)
 refine wk 8 λh=>?_
 refine am<|clZ O<|cY h λr h=>?_
 refine wk 3 λh=>?_
 exact uZ<|gv1 hrg<|hQ _ h
theorem im {c:GChain} {dist:List GRat} {Q:Bool->Prop} (h:dg c dist Q) (hQ:∀r1,Q r1->R (AV.bool r1) S) :
  Ctr prog 44 [bq c,eL af dist] S R:=by
 refine au func44 rfl ntmps44 results44 krZ (λrg hrg=>?_)
 refine wk 9 λg1 h=>?_
 refine tkZ h (λhg h=>wZ rg<|fW df iM iT cx (kk:=3) O O O hg (λg2=>dr (EWk.ow (k:=14) (o':=.arr 3 (List.map af<|aQ c.H (⟨false,[],[]⟩:GRat))) O (OW.rep<|VWL.vwc<|vZ<|vl' (VW.nilL)<|vl' (VW.nilL)<|vn)) ?_))
 refine wk 14 λg3 h=>?_
 refine lpZ h (λy=>aw [(1,eL af dist),(2,.ptr rg 2 g1 0 0),(5,.sl 3 rg 14 g2 0 (Int.toNat c.H)),(6,.ptr rg 6 g3 0 0),(15,eL af dist),(16,iZ (dist.length:Int)),(17,iZ y.1)]) (λy=>stL S rg [(2,.arr 4 [bq c],g1),(6,.arr 3 [af y.2],g3),(14,.arr 3 (List.map af<|aQ c.H (⟨false,[],[]⟩:GRat)),g2)]) (EWk.trans (EWk.ow (k:=6) (o':=.arr 3 [af (⟨false,[],[]⟩:GRat)]) O<|OW.one<|VWL.vwc<|vZ<|vl' (VW.nilL)<|vl' (VW.nilL)<|vn)<|canon (gb<|fZ<|fZ<|fZ<|fn)<|sc O<|sc O<|sc O<|sn) (λy _ h=>?_)
 obtain⟨x,x1⟩:=y
 refine wk 5 λh=>?_
 refine cZ h O (λhb h=>?_) (λhb h=>?_)
 ·refine wk 14 λg4 h hg1 h=>?_
  refine am<|clZ O<|bw h λr h=>am<|wX O O<|nZ<|cZ h O (λhb1 h=>?_) (λhb1 h=>?_)
  ·refine wk 4 λh=>?_
   exact uZ<|gv1 hrg<|hQ _ h
  refine wk 4 λh=>?_
  refine am<|clZ O<|bE h λr1 h=>?_
  exact wk 9999 trivial
 refine wk 10 λh=>?_
 refine lpZ h (λy=>aw [(1,eL af dist),(5,.sl 3 rg 14 g2 0 y.2.length),(6,.ptr rg 6 g3 0 0),(29,eL cX c.V),(30,iZ (c.V.length:Int)),(31,iZ y.1)]) (λy=>stL S rg [(6,.arr 3 [af x1],g3),(14,.arr 3 (List.map af y.2),g2)]) (canon (fZ<|fc (VW.slen lzZ)<|gb<|fn)<|sc O<|sc O<|sn) (λy _ h=>?_)
 obtain⟨x2,net⟩:=y
 refine wk 5 λh=>?_
 refine cZ h O (λhb2 h=>?_) (λhb2 h=>?_)
 ·refine wk 11 λg5 h hg3 h=>?_
  refine tkZ h (λhg4 h=>?_)
  obtain⟨r2,hc,h⟩:=h
  refine Vc.drawn' mixed rg (gd [(7,pc (af r2))]) krZ ?_
  refine wk 3 λh=>?_
  refine dP O O<|fv df bf dZ (λ_=>O) O O hg4 ?_
  refine wk 2 λh=>?_
  refine dL (E:=([(rg,10)],[])) O O zSm (cfa zAp eCf) (cG (aZ 10 O) bf dZ dT O O (v:=af ((at' c.V x2).X)) O (dC (vs:=[af (at' dist<|(at' c.V x2).D),af ((at' c.V x2).X)]) O (vZ<|vZ<|vn) (λ_=>ee hc (λ_ hr=>⟨by rw[hr],rfl⟩)) O ?_))
  refine wk 3 λg6 h=>?_
  refine tkZ h (λhi h=>?_)
  obtain⟨r3,hc1,h⟩:=h
  refine tkZ h (λhi1 h=>?_)
  obtain⟨r4,hc2,h⟩:=h
  refine tkZ h (λhi2 h=>tkZ h (λhi3 h=>Vc.drawn' mixed rg (gd [(12,pc (af r3)),(19,pc (af r4))]) krZ ?_))
  refine wk 9 λh=>?_
  refine dP O O<|aS df bf dZ O O hi ?_
  refine wk 2 λh=>?_
  refine dC (vs:=[af (at' net<|(at' c.V x2).D),af r2]) O (vZ<|vZ<|vn) (λ_=>dm hc1 (λ_ hr=>⟨by rw[hr],rfl⟩)) O ?_
  refine wk 3 λh=>?_
  refine dP O O<|aS df bf dZ O O hi1 ?_
  refine wk 2 λh=>?_
  refine dC (vs:=[af (at' net<|(at' c.V x2).To),af r2]) O (vZ<|vZ<|vn) (λ_=>bE hc2 (λ_ hr=>⟨by rw[hr],rfl⟩)) O<|dP O O<|aS df bf dZ O O hi2<|dL (E:=([],[(rg,14)])) O O zSm (cfo krZ<|cfo krZ<|cfo krZ<|cfo krZ<|cfo krZ<|cfo krZ<|cfa zAp eCf) (dH (aZ 14 O) bf dZ (x':=r3) (λ_=>O) O O (bn hi2 lzZ) O O bY<|dP O O<|aS df bf dZ O O hi3<|dL (E:=([],[(rg,14)])) O O zSm eCf (dH (aZ 14 O) bf dZ (x':=r4) (λ_=>O) O O (bn hi3 lzZ) O O bY ?_))
  exact wk 9999 trivial
 refine xsZ<|qZ<|oV (aW (k:=14) (xs:=List.map af net) O (es:=[(5,eL af net),(6,.ptr rg 6 g3 0 0)]) (fc (aL O)<|fZ<|fn) (m:=[(6,.arr 3 [af x1],g3)]) (sc O<|sn)) ?_
 obtain⟨r5,hc3,h⟩:=h
 obtain⟨r6,hc4,h⟩:=h
 refine bcZ h (λhb3 h=>?_) (λhb3 h=>?_)
 ·obtain⟨r7,hc5,h⟩:=h
  refine Vc.drawn' mixed rg (gd [(1,pc (af r5)),(2,pc (iZ r6)),(6,pc (.bool r7))]) krZ ?_
  refine wk 1 λh=>?_
  refine dC (vs:=[iZ 1]) O (vZ<|vn) (λ_=>co hc3 (λ_ hr=>⟨by rw[hr],rfl⟩)) O<|dC (vs:=[af x1,af r5]) O (vZ<|vZ<|vn) (λ_=>gK hc4 (λ_ hr=>⟨by rw[hr],rfl⟩)) O ?_
  refine wk 5 λh=>?_
  refine dC (vs:=[eL af net,.fn (.func 87) [] []]) O (vZ<|vZ<|vn) (λ_=>cL hc5 (λ_ hr=>⟨by rw[hr],rfl⟩)) O ?_
  refine wk 5 λh=>?_
  exact uZ<|gv1 hrg<|hQ _ h
 refine Vc.drawn' mixed rg (gd [(1,pc (af r5)),(2,pc (iZ r6))]) krZ ?_
 refine wk 1 λh=>?_
 refine dC (vs:=[iZ 1]) O (vZ<|vn) (λ_=>co hc3 (λ_ hr=>⟨by rw[hr],rfl⟩)) O<|dC (vs:=[af x1,af r5]) O (vZ<|vZ<|vn) (λ_=>gK hc4 (λ_ hr=>⟨by rw[hr],rfl⟩)) O ?_
 refine wk 8 λh=>?_
 exact uZ<|gv1 hrg<|hQ _ h
theorem np {c:GChain} {dist:List GRat} {Q:Bool->Option Int->Prop} (h:eY c dist Q) (hQ:∀r1 r2,Q r1 r2->R (.tuple [AV.bool r1,cw 39 r2]) S) :
  Ctr prog 14 [bq c,eL af dist] S R:=by
 refine au func14 rfl ntmps14 results14 krZ (λrg hrg=>?_)
 refine wk 11 λg1 h=>?_
 refine am<|clZ O<|jF h λe h=>?_
 refine wk 7 λh=>?_
 refine cZ h O (λhb h=>?_) (λhb h=>?_)
 ·refine wk 6 λh=>?_
  exact uZ<|aj (v:=.bool false) O<|aj (v:=cw 39 e) O<|aq<|ar hrg eVw<|hQ _ _ h
 refine wk 5 λh=>?_
 refine am<|clZ O<|im h λr h=>mvZ (.bool r) O<|gtZ h O O (λhb1 h=>?_) (λhb1 h=>?_)
 ·refine wk 2 λh=>?_
  refine am<|clZ O<|iW h λr1 h=>?_
  refine wk 8 λh=>?_
  exact uZ<|aj (v:=.bool ((r1.length:Int) == 1)) O (aj (v:=.niface) O<|aq<|ar hrg eVw<|hQ _ _ h)
 refine wk 7 λh=>?_
 exact uZ<|aj (v:=.bool false) O<|aj (v:=.niface) O<|aq<|ar hrg eVw<|hQ _ _ h
theorem nl {c:GChain} {dist:List GRat} {Q:Option Int->Prop} (h:gh c dist Q) (hQ:∀r1,Q r1->R (cw 39 r1) S) :
  Ctr prog 45 [bq c,eL af dist] S R:=by
 refine au func45 rfl ntmps45 results45 krZ (λrg hrg=>?_)
 refine wk 10 λg1 h=>?_
 refine am<|clZ O<|jF h λe h=>?_
 refine wk 7 λh=>?_
 refine cZ h O (λhb h=>?_) (λhb h=>?_)
 ·refine wk 5 λh=>?_
  exact uZ<|gv1 hrg<|hQ _ h
 refine wk 6 λh=>?_
 refine am<|clZ O<|im h λr h=>am<|uV O<|nZ<|cZ h O (λhb1 h=>?_) (λhb1 h=>?_)
 ·refine wk 5 λh=>?_
  exact uZ<|gv1 hrg<|hQ _ h
 refine wk 5 λh=>?_
 exact uZ<|gv1 hrg<|hQ _ h
theorem pu {c:GChain} {dist:List GRat} {Q:GRat->Option Int->Prop} (h:fV c dist Q) (hQ:∀r1 r2,Q r1 r2->R (.tuple [af r1,cw 39 r2]) S) :
  Ctr prog 15 [bq c,eL af dist] S R:=by
 refine au func15 rfl ntmps15 results15 krZ (λrg hrg=>?_)
 refine wk 11 λg1 g2 h=>?_
 refine am<|clZ O<|nl h λe h=>?_
 refine wk 7 λh=>?_
 refine cZ h O (λhb h=>?_) (λhb h=>?_)
 ·refine dA<|am<|bx mg cx kw kp bf (ps:=[]) O O (v:=.agg [.bool false,.nil,.nil]) O ?_
  refine wk 4 λh=>?_
  exact uZ<|aO (aZ 4 O) bf dZ dT O O (v:=.agg [.bool false,.nil,.nil]) O<|aj (v:=cw 39 e) O<|aq<|ar hrg (VW.tupL<|vl' (VW.aggL<|vZ<|vl' (VW.nilL)<|vl' (VW.nilL)<|vn)<|vZ<|vn)<|hQ _ _ h
 refine wk 13 λg3 h=>?_
 refine lpZ h (λy=>aw [(2,.ptr rg 2 g1 0 0),(4,.ptr rg 4 g2 0 0),(7,.ptr rg 7 g3 0 0),(17,eL af dist),(18,iZ (dist.length:Int)),(19,iZ y.1)]) (λy=>stL S rg [(2,.arr 4 [bq c],g1),(4,.arr 3 [.agg [.bool false,.nil,.nil]],g2),(7,.arr 3 [af y.2],g3)]) (EWk.trans (EWk.ow (k:=7) (o':=.arr 3 [af (⟨false,[],[]⟩:GRat)]) O<|OW.one<|VWL.vwc<|vZ<|vl' (VW.nilL)<|vl' (VW.nilL)<|vn)<|canon (gb<|fZ<|fZ<|fn)<|sc O<|sc O<|sc O<|sn) (λy _ h=>?_)
 obtain⟨x,x1⟩:=y
 refine wk 5 λh=>?_
 refine cZ h O (λhb1 h=>?_) (λhb1 h=>?_)
 ·refine wk 20 λg4 h hg h hg1 h=>?_
  refine cZ h O (λhb2 h=>?_) (λhb2 h=>?_)
  ·refine wk 3 λh=>?_
   refine am<|clZ O<|bE h λr h=>?_
   exact wk 9999 trivial
  exact wk 9999 trivial
 refine wk 7 λh=>?_
 exact uZ<|aO (aZ 4 O) bf dZ dT O O (v:=af x1) O<|aj (v:=.niface) O<|aq<|ar hrg eVw<|hQ _ _ h
end Go.Proofs.YtcmagbhiioheeaaGreatDoor
namespace Go.Proofs.YtcmagbhiioheeaaGreatDoor
open Go.Gg Tryz
set_option maxRecDepth 100000
set_option maxHeartbeats 2000000
variable {S:St} {R:AV->St->Prop}
theorem qE {Q:GChain->Prop} (h:kS Q) (hQ:∀r1,Q r1->R (bq r1) S) :
  Ctr prog 17 [] S R:=by
 refine au func17 rfl ntmps17 results17 krZ (λrg hrg=>?_)
 refine wk 6 λg1 h=>?_
 refine am<|clZ O<|qO h λr h=>am<|bx xE oh Cq Bu Ay (ps:=[(0,iZ 0),(1,iZ 1),(2,af r)]) O O (v:=.agg [iZ 0,iZ 1,.bool r.U,aE r.L,aE r.W]) O (am<|clZ O<|qO h λr1 h=>am<|bx xE oh Cq Bu Ay (ps:=[(0,iZ 1),(1,iZ 0),(2,af r1)]) O O (v:=.agg [iZ 1,iZ 0,.bool r1.U,aE r1.L,aE r1.W]) O (wZ rg<|aV yL AN oh (es:=[.agg [iZ 0,iZ 1,.bool r.U,aE r.L,aE r.W],.agg [iZ 1,iZ 0,.bool r1.U,aE r1.L,aE r1.W]]) O (kk:=5) O O O O O O (λg2=>wZ rg<|aV mf ok4 pt (es:=[.bool false,.bool true]) O (kk:=1) O O O O O O (λg3=>am<|bx tf sG xo wJ pX (ps:=[(0,iZ 2),(2,.sl 5 rg 5 g2 0 ([(⟨0,1,(⟨r.U,r.L,r.W⟩:GRat)⟩:GMove),(⟨1,0,(⟨r1.U,r1.L,r1.W⟩:GRat)⟩:GMove)].length)),(3,.sl 1 rg 6 g3 0 ([false,true].length))]) O O (v:=.agg [iZ 2,iZ 0,.sl 5 rg 5 g2 0 ([(⟨0,1,(⟨r.U,r.L,r.W⟩:GRat)⟩:GMove),(⟨1,0,(⟨r1.U,r1.L,r1.W⟩:GRat)⟩:GMove)].length),.sl 1 rg 6 g3 0 ([false,true].length)]) O ?_))))
 refine wk 2 λh=>?_
 exact uZ<|aO (aZ 0 O) pX dZ yu O O (v:=.agg [iZ 2,iZ 0,.sl 5 rg 5 g2 0 ([(⟨0,1,(⟨r.U,r.L,r.W⟩:GRat)⟩:GMove),(⟨1,0,(⟨r1.U,r1.L,r1.W⟩:GRat)⟩:GMove)].length),.sl 1 rg 6 g3 0 ([false,true].length)]) O (aq<|aP (k:=5) (xs:=List.map cX [(⟨0,1,(⟨r.U,r.L,r.W⟩:GRat)⟩:GMove),(⟨1,0,(⟨r1.U,r1.L,r1.W⟩:GRat)⟩:GMove)]) O (v':=.agg [iZ 2,iZ 0,eL cX [(⟨0,1,(⟨r.U,r.L,r.W⟩:GRat)⟩:GMove),(⟨1,0,(⟨r1.U,r1.L,r1.W⟩:GRat)⟩:GMove)],.sl 1 rg 6 g3 0 ([false,true].length)]) (VW.aggL<|vZ<|vZ<|vl' (aL O)<|vl' (fT O)<|vn) (aP (k:=6) (xs:=List.map AV.bool [false,true]) O (v':=.agg [iZ 2,iZ 0,eL cX [(⟨0,1,(⟨r.U,r.L,r.W⟩:GRat)⟩:GMove),(⟨1,0,(⟨r1.U,r1.L,r1.W⟩:GRat)⟩:GMove)],eL AV.bool [false,true]]) (VW.aggL<|vZ<|vZ<|vZ<|vl' (aL O)<|vn) (goZ hrg<|hQ _ h)))
theorem nU {Q:Bool->Prop} (h:fP Q) (hQ:∀r1,Q r1->R (AV.bool r1) S) :
  Ctr prog 4 [] S R:=by
 refine au func4 rfl ntmps4 results4 krZ (λrg hrg=>?_)
 refine wk 6 λh=>?_
 refine am<|clZ O<|qE h λr h=>am<|clZ O<|jG h λr1 r2 h=>?_
 refine wk 8 λh=>?_
 refine am<|clZ O<|qE h λr3 h=>am<|clZ O<|sC h λr4 r5 h=>?_
 refine wk 11 λh=>?_
 refine gtZ h O O (λhb h=>?_) (λhb h=>?_)
 ·refine wk 5 λh=>?_
  refine gtZ h O O (λhb1 h=>?_) (λhb1 h=>?_)
  ·refine wk 7 λh=>?_
   refine gtZ h O O (λhb2 h=>?_) (λhb2 h=>?_)
   ·refine wk 7 λh=>?_
    refine gtZ h O O (λhb3 h=>?_) (λhb3 h=>?_)
    ·refine wk 6 λh hg h=>?_
     refine am<|clZ O<|lX h λr6 h=>gTZ O O hb3<|am<|Gj td9 O O ?_
     refine wk 2 λh=>?_
     refine gtZ h O O (λhb4 h=>?_) (λhb4 h=>?_)
     ·refine wk 6 λh hg1 h=>?_
      refine am<|clZ O<|lX h λr7 h=>gTZ O O hb4<|am<|Gj td9 O O ?_
      refine wk 3 λh=>?_
      exact uZ<|gv1 hrg<|hQ _ h
     refine wk 7 λh=>?_
     exact uZ<|gv1 hrg<|hQ _ h
    refine wk 14 λh=>?_
    exact uZ<|gv1 hrg<|hQ _ h
   refine wk 19 λh=>?_
   exact uZ<|gv1 hrg<|hQ _ h
  refine wk 24 λh=>?_
  exact uZ<|gv1 hrg<|hQ _ h
 refine wk 28 λh=>?_
 exact uZ<|gv1 hrg<|hQ _ h
theorem wd {f:GFormula} {Q:Bool->Prop} (h:ot f Q) (hQ:∀r1,Q r1->R (AV.bool r1) S) :
  Ctr prog 20 [aI f] S R:=by
 refine au func20 rfl ntmps20 results20 krZ (λrg hrg=>?_)
 refine wk 18 λg1 h=>?_
 refine lpZ h (λy=>aw [(1,.ptr rg 1 g1 0 0),(3,iZ y.1),(7,eL cz f.N),(8,iZ (f.N.length:Int)),(9,iZ y.2)]) (λy=>stL S rg [(1,.arr 3 [aI f],g1)]) eCa (λy _ h=>?_)
 obtain⟨n,x⟩:=y
 refine wk 5 λh=>?_
 refine cZ h O (λhb h=>?_) (λhb h=>?_)
 ·exact wk 9999 trivial
 refine wk 7 λh=>?_
 refine gfZ h O O (λhb1 h=>?_) (λhb1 h=>?_)
 ·refine wk 9 λh=>?_
  refine gfZ h O O (λhb2 h=>?_) (λhb2 h=>?_)
  ·refine wk 6 λh=>?_
   exact uZ<|gv1 hrg<|hQ _ h
  refine wk 4 λh=>?_
  exact uZ<|gv1 hrg<|hQ _ h
 refine wk 10 λh=>?_
 exact uZ<|gv1 hrg<|hQ _ h
theorem wb {f:GFormula} {Q:Bool->Prop} (h:jE f Q) (hQ:∀r1,Q r1->R (AV.bool r1) S) :
  Ctr prog 5 [aI f] S R:=by
 refine au func5 rfl ntmps5 results5 krZ (λrg hrg=>?_)
 refine wk 8 λg1 h=>?_
 refine am<|clZ O<|wd h λr h=>?_
 refine wk 2 λh=>?_
 refine gtZ h O O (λhb h=>?_) (λhb h=>?_)
 ·refine wk 2 λh=>?_
  refine am<|clZ O<|tr h λr1 h=>?_
  refine wk 5 λh=>?_
  exact uZ<|gv1 hrg<|hQ _ h
 refine wk 5 λh=>?_
 exact uZ<|gv1 hrg<|hQ _ h
end Go.Proofs.YtcmagbhiioheeaaGreatDoor
namespace Go.Proofs.YtcmagbhiioheeaaGreatDoor
open Go.Gg Tryz
set_option maxRecDepth 100000
set_option maxHeartbeats 2000000
variable {S:St} {R:AV->St->Prop}
theorem gL {x:GRat} {Q:Bool->Prop} (h:fp x Q) (hQ:∀r1,Q r1->R (AV.bool r1) S) :
  Ctr prog 25 [af x] S R:=by
 refine au func25 rfl ntmps25 results25 krZ (λrg hrg=>?_)
 refine wk 8 λg1 h=>?_
 refine am<|clZ O<|ey h λr h=>mvZ (.bool r) O<|gtZ h O O (λhb h=>?_) (λhb h=>?_)
 ·refine wk 2 λh=>?_
  refine am<|clZ O<|bw h λr1 h=>?_
  refine wk 5 λh=>?_
  exact uZ<|gv1 hrg<|hQ _ h
 refine wk 5 λh=>?_
 exact uZ<|gv1 hrg<|hQ _ h
theorem ip {fail:GRat} {repair:GRat} {Q:GRat->Option Int->Prop} (h:eQ fail repair Q) (hQ:∀r1 r2,Q r1 r2->R (.tuple [af r1,cw 39 r2]) S) :
  Ctr prog 8 [af fail,af repair] S R:=by
 refine au func8 rfl ntmps8 results8 krZ (λrg hrg=>?_)
 refine wk 8 λg1 g2 g3 h=>?_
 refine jgZ (γ:=Nat×Nat×Nat) h (λy=>aw [(2,.ptr rg 2 y.2.1 0 0),(3,.ptr rg 3 y.2.2.1 0 0),(4,.ptr rg 4 y.2.2.2 0 0),(13,.bool y.1)]) (λy=>stL S rg [(2,.arr 3 [af fail],y.2.1),(3,.arr 3 [af repair],y.2.2.1),(4,.arr 3 [.agg [.bool false,.nil,.nil]],y.2.2.2)]) (λy h=>?_) (λ_ h=>?_)
 ·obtain⟨x,⟨g4,g5,g6⟩⟩:=y
  refine cZ h O (λhb h=>?_) (λhb h=>?_)
  ·refine dA<|am<|bx mg cx kw kp bf (ps:=[]) O O (v:=.agg [.bool false,.nil,.nil]) O ?_
   refine wk 4 λh=>?_
   exact uZ<|aO (aZ 4 O) bf dZ dT O O (v:=.agg [.bool false,.nil,.nil]) O<|aj (v:=.iface 39 (iZ 3)) O<|aq<|ar hrg (VW.tupL<|vl' (VW.aggL<|vZ<|vl' (VW.nilL)<|vl' (VW.nilL)<|vn)<|vZ<|vn)<|hQ _ _ h
  refine kZ<|qZ ?_
  obtain⟨r,hc,h⟩:=h
  obtain⟨r1,r2,hc1,h⟩:=h
  refine Vc.drawn' mixed rg (gd [(3,pc (af r)),(4,pc (.tuple [af r1,cw 39 r2]))]) krZ ?_
  refine wk 3 λh=>?_
  refine dC (vs:=[af fail,af repair]) O (vZ<|vZ<|vn) (λ_=>bE hc (λ_ hr=>⟨by rw[hr],rfl⟩)) O<|dC (vs:=[af fail,af r]) O (vZ<|vZ<|vn) (λ_=>mO hc1 (λ_ _ hr=>⟨by rw[hr.1,hr.2],rfl⟩)) O ?_
  refine wk 5 λh=>?_
  exact uZ<|aO (aZ 4 O) bf dZ dT O O (v:=af r1) O<|aj (v:=cw 39 r2) O<|aq<|ar hrg eVw<|hQ _ _ h
 refine wk 2 λh=>?_
 refine am<|clZ O<|gL h λr3 h=>?_
 refine wk 2 λh=>?_
 refine gfZ h O O (λhb1 h=>?_) (λhb1 h=>?_)
 ·refine wk 2 λh=>?_
  refine am<|clZ O<|gL h λr4 h=>?_
  exact wk 9999 trivial
 exact wk 9999 trivial
theorem lY {fail:List GRat} {repair:List GRat} {Q:Option Int->Prop} (h:gY fail repair Q) (hQ:∀r1,Q r1->R (cw 39 r1) S) :
  Ctr prog 28 [eL af fail,eL af repair] S R:=by
 refine au func28 rfl ntmps28 results28 krZ (λrg hrg=>?_)
 refine wk 5 λh=>?_
 refine jnZ h (λy=>aw [(0,eL af fail),(1,eL af repair),(16,.bool y)]) (λy=>stL S rg []) (λx h=>?_) (λ_ h=>?_)
 ·refine cZ h O (λhb h=>?_) (λhb h=>?_)
  ·refine wk 5 λh=>?_
   exact uZ<|gv1 hrg<|hQ _ h
  refine wk 8 λh=>?_
  refine cZ h O (λhb1 h=>?_) (λhb1 h=>?_)
  ·refine wk 5 λh=>?_
   exact uZ<|gv1 hrg<|hQ _ h
  refine wk 9 λh=>?_
  refine lpZ h (λy=>aw [(0,eL af fail),(1,eL af repair),(23,iZ (fail.length:Int)),(24,iZ y)]) (λy=>stL S rg []) eCa (λx1 _ h=>?_)
  refine wk 5 λh=>?_
  refine cZ h O (λhb2 h=>?_) (λhb2 h=>?_)
  ·refine wk 8 λh=>?_
   refine jnZ h (λy=>aw [(0,eL af fail),(1,eL af repair),(23,iZ (fail.length:Int)),(24,iZ x1),(40,.bool y)]) (λy=>stL S rg []) (λx2 h=>?_) (λ_ h=>?_)
   ·refine cZ h O (λhb3 h=>?_) (λhb3 h=>?_)
    ·refine wk 5 λh=>?_
     exact uZ<|gv1 hrg<|hQ _ h
    exact wk 9999 trivial
   refine wk 5 λh hg1 h=>?_
   refine am<|clZ O<|gL h λr h=>?_
   refine wk 2 λh=>?_
   refine gfZ h O O (λhb4 h=>?_) (λhb4 h=>?_)
   ·refine wk 8 λh hg2 h=>?_
    refine am<|clZ O<|gL h λr1 h=>?_
    exact wk 9999 trivial
   exact wk 9999 trivial
  refine wk 9 λh=>?_
  refine lpZ h (λy=>aw [(0,eL af fail),(1,eL af repair),(44,iZ (fail.length:Int)),(45,iZ y)]) (λy=>stL S rg []) eCa (λx3 _ h=>?_)
  refine wk 5 λh=>?_
  refine cZ h O (λhb5 h=>?_) (λhb5 h=>?_)
  ·refine wk 8 λh=>?_
   refine jnZ h (λy=>aw [(0,eL af fail),(1,eL af repair),(44,iZ (fail.length:Int)),(45,iZ x3),(61,.bool y)]) (λy=>stL S rg []) (λx4 h=>?_) (λ_ h=>?_)
   ·refine cZ h O (λhb6 h=>?_) (λhb6 h=>?_)
    ·refine wk 5 λh=>?_
     exact uZ<|gv1 hrg<|hQ _ h
    exact wk 9999 trivial
   refine wk 5 λh hg4 h=>?_
   refine am<|clZ O<|bw h λr2 h=>?_
   refine wk 2 λh=>?_
   refine gtZ h O O (λhb7 h=>?_) (λhb7 h=>?_)
   ·refine wk 8 λh hg5 h=>?_
    refine am<|clZ O<|bw h λr3 h=>?_
    exact wk 9999 trivial
   exact wk 9999 trivial
  refine wk 5 λh=>?_
  exact uZ<|gv1 hrg<|hQ _ h
 exact wk 9999 trivial
theorem qU {fail:List GRat} {repair:List GRat} {f:GFormula} {Q:GChain->Option Int->Prop} (h:jX fail repair f Q) (hQ:∀r1 r2,Q r1 r2->R (.tuple [bq r1,cw 39 r2]) S) :
  Ctr prog 10 [eL af fail,eL af repair,aI f] S R:=by
 refine au func10 rfl ntmps10 results10 krZ (λrg hrg=>?_)
 refine wk 11 λg1 g2 h=>?_
 refine am<|clZ O<|lY h λe h=>?_
 refine wk 7 λh=>?_
 refine cZ h O (λhb h=>?_) (λhb h=>?_)
 ·refine dA<|am<|bx tf sG xo wJ pX (ps:=[]) O O (v:=.agg [iZ 0,iZ 0,.nil,.nil]) O ?_
  refine wk 4 λh=>?_
  exact uZ<|aO (aZ 6 O) pX dZ yu O O (v:=.agg [iZ 0,iZ 0,.nil,.nil]) O<|aj (v:=cw 39 e) O<|aq<|ar hrg (VW.tupL<|vl' (VW.aggL<|vZ<|vZ<|vl' (VW.nilL)<|vl' (VW.nilL)<|vn)<|vZ<|vn)<|hQ _ _ h
 refine wk 5 λh=>?_
 refine am<|clZ O<|dJ h λe1 h=>?_
 refine wk 7 λh=>?_
 refine cZ h O (λhb1 h=>?_) (λhb1 h=>?_)
 ·refine dA<|am<|bx tf sG xo wJ pX (ps:=[]) O O (v:=.agg [iZ 0,iZ 0,.nil,.nil]) O ?_
  refine wk 4 λh=>?_
  exact uZ<|aO (aZ 6 O) pX dZ yu O O (v:=.agg [iZ 0,iZ 0,.nil,.nil]) O<|aj (v:=cw 39 e1) O<|aq<|ar hrg (VW.tupL<|vl' (VW.aggL<|vZ<|vZ<|vl' (VW.nilL)<|vl' (VW.nilL)<|vn)<|vZ<|vn)<|hQ _ _ h
 refine wk 15 λh=>?_
 refine cZ h O (λhb2 h=>?_) (λhb2 h=>?_)
 ·refine dA<|am<|bx tf sG xo wJ pX (ps:=[]) O O (v:=.agg [iZ 0,iZ 0,.nil,.nil]) O ?_
  refine wk 4 λh=>?_
  exact uZ<|aO (aZ 6 O) pX dZ yu O O (v:=.agg [iZ 0,iZ 0,.nil,.nil]) O<|aj (v:=.iface 39 (iZ 11)) O<|aq<|ar hrg (VW.tupL<|vl' (VW.aggL<|vZ<|vZ<|vl' (VW.nilL)<|vl' (VW.nilL)<|vn)<|vZ<|vn)<|hQ _ _ h
 refine wk 4 λh=>?_
 refine tkZ h (λhg h=>am<|uU O O hg<|am<|bx tf sG xo wJ pX (ps:=[(0,iZ (1*2^(Int.toNat (fail.length:Int))))]) O O (v:=.agg [iZ (1*2^(Int.toNat (fail.length:Int))),iZ 0,.nil,.nil]) O ?_)
 refine wk 7 λg3 h=>?_
 refine tkZ h (λhg1 h=>am<|uU O O hg1<|mvZ (iZ 0) O<|nZ<|bZ<|Vc.matB 11 2 96 5 (b:=λg4=>.agg [iZ (1*2^(Int.toNat (fail.length:Int))),iZ 0,.sl 5 rg 96 g4 0 0,.nil]) O O dZ dZ O (λg4=>Vc.matB 11 3 60 1 (b:=λg5=>.agg [iZ (1*2^(Int.toNat (fail.length:Int))),iZ 0,.sl 5 rg 96 g4 0 0,.sl 1 rg 60 g5 0 0]) O O dZ dZ O (λg5=>lgZ h (g1,g2,g3,g5,g4) (λy=>aw [(0,eL af fail),(1,eL af repair),(5,.ptr rg 5 y.2.1 0 0),(6,.ptr rg 6 y.2.2.1 0 0),(10,iZ (fail.length:Int)),(11,.ptr rg 11 y.2.2.2.1 0 0),(42,iZ (1*2^(Int.toNat (fail.length:Int)))),(43,iZ y.1.1)]) (λy=>stL S rg [(5,.arr 3 [aI f],y.2.1),(6,.arr 4 [.agg [iZ 0,iZ 0,.nil,.nil]],y.2.2.1),(11,.arr 4 [.agg [iZ (1*2^(Int.toNat (fail.length:Int))),iZ 0,.sl 5 rg 96 y.2.2.2.2.2 0 y.1.2.2.length,.sl 1 rg 60 y.2.2.2.2.1 0 y.1.2.1.length]],y.2.2.2.1),(60,.arr 1 (List.map AV.bool y.1.2.1),y.2.2.2.2.1),(96,.arr 5 (List.map cX y.1.2.2),y.2.2.2.2.2)]) (EWk.trans (EWk.ow (k:=11) (o':=.arr 4 [.agg [iZ (1*2^(Int.toNat (fail.length:Int))),iZ 0,.sl 5 rg 96 g4 0 ([].length),.sl 1 rg 60 g5 0 ([].length)]]) O (OW.one<|VWL.vwc<|vZ<|vZ<|vl' (VW.slen lzZ)<|vl' (VW.slen lzZ)<|vn)) (canon (gb<|gb<|fn)<|od O O O O<|sc O<|sn)) (λy _ h=>?_))))
 obtain⟨⟨x,x1,x2⟩,⟨g6,g7,g8,g9,g10⟩⟩:=y
 refine wk 5 λh=>?_
 refine cZ h O (λhb3 h=>?_) (λhb3 h=>?_)
 ·refine wk 12 λh=>?_
  refine am<|clZ O<|rr h λr r1 h=>?_
  refine wk 12 λh=>?_
  refine cZ h O (λhb4 h=>?_) (λhb4 h=>?_)
  ·refine dA<|am<|bx tf sG xo wJ pX (ps:=[]) O O (v:=.agg [iZ 0,iZ 0,.nil,.nil]) O ?_
   refine wk 4 λh=>?_
   exact uZ<|aO (aZ 6 O) pX dZ yu O O (v:=.agg [iZ 0,iZ 0,.nil,.nil]) O<|aj (v:=cw 39 r1) O<|aq<|ar hrg (VW.tupL<|vl' (VW.aggL<|vZ<|vZ<|vl' (VW.nilL)<|vl' (VW.nilL)<|vn)<|vZ<|vn)<|hQ _ _ h
  refine wk 6 λh=>?_
  refine wZ rg<|aV mf ok4 pt (es:=[.bool r]) O (kk:=1) O O O O O O (λg11=>tkZ h (λhg2 h=>wZ rg<|cu mf wC ok4 pt (es:=x1) (xs:=[r]) (enc:=AV.bool) (aZ 60 O) lzZ (bi (aZ 59 O) lzZ) (kk:=1) O O (λ_=>O) (λ_=>O) hg2 O (λ_=>bY) (λg12=>?_)))
  refine wk 11 λh hg3 h=>?_
  refine lgZ h (g6,g7,g8,g12,g10) (λy=>aw [(0,eL af fail),(1,eL af repair),(5,.ptr rg 5 y.2.1 0 0),(6,.ptr rg 6 y.2.2.1 0 0),(10,iZ (fail.length:Int)),(11,.ptr rg 11 y.2.2.2.1 0 0),(12,iZ x),(15,iZ y.1.1),(42,iZ (1*2^(Int.toNat (fail.length:Int)))),(43,iZ x)]) (λy=>stL S rg [(5,.arr 3 [aI f],y.2.1),(6,.arr 4 [.agg [iZ 0,iZ 0,.nil,.nil]],y.2.2.1),(11,.arr 4 [.agg [iZ (1*2^(Int.toNat (fail.length:Int))),iZ 0,.sl 5 rg 96 y.2.2.2.2.2 0 y.1.2.length,.sl 1 rg 60 y.2.2.2.2.1 0 ((x1++[r]).length)]],y.2.2.2.1),(60,.arr 1 (List.map AV.bool<|x1++[r]),y.2.2.2.2.1),(96,.arr 5 (List.map cX y.1.2),y.2.2.2.2.2)]) eCa (λy _ h=>?_)
  obtain⟨⟨i,x3⟩,⟨g13,g14,g15,g16,g17⟩⟩:=y
  refine wk 6 λh=>?_
  refine cZ h O (λhb5 h=>?_) (λhb5 h=>?_)
  ·refine kZ<|qZ<|bZ<|jgZ (γ:=Nat×Nat×Nat×Nat×Nat) h (λy=>aw [(0,eL af fail),(1,eL af repair),(5,.ptr rg 5 y.2.1 0 0),(6,.ptr rg 6 y.2.2.1 0 0),(10,iZ (fail.length:Int)),(11,.ptr rg 11 y.2.2.2.1 0 0),(12,iZ x),(15,iZ i),(42,iZ (1*2^(Int.toNat (fail.length:Int)))),(43,iZ x),(80,.bool y.1)]) (λy=>stL S rg [(5,.arr 3 [aI f],y.2.1),(6,.arr 4 [.agg [iZ 0,iZ 0,.nil,.nil]],y.2.2.1),(11,.arr 4 [.agg [iZ (1*2^(Int.toNat (fail.length:Int))),iZ 0,.sl 5 rg 96 y.2.2.2.2.2 0 x3.length,.sl 1 rg 60 y.2.2.2.2.1 0 ((x1++[r]).length)]],y.2.2.2.1),(60,.arr 1 (List.map AV.bool<|x1++[r]),y.2.2.2.2.1),(96,.arr 5 (List.map cX x3),y.2.2.2.2.2)]) (λy h=>?_) (λ_ h=>?_)
   ·obtain⟨x4,⟨g18,g19,g20,g21,g22⟩⟩:=y
    refine cZ h O (λhb6 h=>?_) (λhb6 h=>?_)
    ·refine tkZ h (λhg4 h=>tkZ h (λhg5 h=>?_))
     obtain⟨r2,hc,h⟩:=h
     refine tkZ h (λhg6 h=>Vc.drawn' mixed rg (gd [(12,pc (af r2))]) krZ ?_)
     refine wk 5 λh=>?_
     refine dP O O<|uU O O hg4 ?_
     refine wk 3 λh=>?_
     refine dP O O<|fv df bf dZ (λ_=>O) O O hg5 ?_
     refine wk 1 λh=>?_
     refine dP O O<|bx mg cx kw kp bf (ps:=[]) O O (v:=.agg [.bool false,.nil,.nil]) O<|dC (vs:=[af (at' repair i),af (⟨false,[],[]⟩:GRat)]) O (vZ<|vl' (VW.aggL<|vZ<|vl' (VW.nilL)<|vl' (VW.nilL)<|vn)<|vn) (λ_=>bE hc (λ_ hr=>⟨by rw[hr],rfl⟩)) O<|dP O O<|bx xE oh Cq Bu Ay (ps:=[(0,iZ x),(1,iZ (bits .andNot .i64 x<|1*2^(Int.toNat i))),(2,af r2)]) O O (v:=.agg [iZ x,iZ (bits .andNot .i64 x<|1*2^(Int.toNat i)),.bool r2.U,aE r2.L,aE r2.W]) O (dL (E:=([],[(rg,95)])) O O zSm (cfa zAp eCf) (aV yL AN oh (es:=[.agg [iZ x,iZ (bits .andNot .i64 x<|1*2^(Int.toNat i)),.bool r2.U,aE r2.L,aE r2.W]]) O (kk:=5) O O O O O O (λg23=>dL (E:=([(rg,95)],[(rg,96)])) O O zSm eCf (cu yL GS AN oh (es:=x3) (xs:=[(⟨x,(bits .andNot .i64 x<|1*2^(Int.toNat i)),(⟨r2.U,r2.L,r2.W⟩:GRat)⟩:GMove)]) (enc:=cX) (aZ 96 O) lzZ (bi (aZ 95 O) lzZ) (kk:=5) O O (λ_=>O) (λ_=>O) hg6 O (λ_=>bY) (λg24=>?_)))))
     exact wk 9999 trivial
    exact wk 9999 trivial
   refine wk 3 λh=>?_
   refine tkZ h (λhg9 h=>am<|uT O O hg9 ?_)
   refine wk 3 λh=>?_
   refine gtZ h O O (λhb7 h=>?_) (λhb7 h=>?_)
   ·refine wk 8 λh hg10 h=>?_
    refine am<|clZ O<|bw h λr3 h=>?_
    exact wk 9999 trivial
   exact wk 9999 trivial
  refine wk 7 λh=>?_
  refine lgZ h (g13,g14,g15,g16,g17) (λy=>aw [(0,eL af fail),(1,eL af repair),(5,.ptr rg 5 y.2.1 0 0),(6,.ptr rg 6 y.2.2.1 0 0),(10,iZ (fail.length:Int)),(11,.ptr rg 11 y.2.2.2.1 0 0),(12,iZ x),(42,iZ (1*2^(Int.toNat (fail.length:Int)))),(43,iZ x),(98,iZ (fail.length:Int)),(99,iZ y.1.1)]) (λy=>stL S rg [(5,.arr 3 [aI f],y.2.1),(6,.arr 4 [.agg [iZ 0,iZ 0,.nil,.nil]],y.2.2.1),(11,.arr 4 [.agg [iZ (1*2^(Int.toNat (fail.length:Int))),iZ 0,.sl 5 rg 96 y.2.2.2.2.2 0 y.1.2.length,.sl 1 rg 60 y.2.2.2.2.1 0 ((x1++[r]).length)]],y.2.2.2.1),(60,.arr 1 (List.map AV.bool<|x1++[r]),y.2.2.2.2.1),(96,.arr 5 (List.map cX y.1.2),y.2.2.2.2.2)]) eCa (λy _ h=>?_)
  obtain⟨⟨x5,x6⟩,⟨g25,g26,g27,g28,g29⟩⟩:=y
  refine wk 5 λh=>?_
  refine cZ h O (λhb8 h=>?_) (λhb8 h=>?_)
  ·refine wk 8 λh=>?_
   refine jgZ (γ:=Nat×Nat×Nat×Nat×Nat) h (λy=>aw [(0,eL af fail),(1,eL af repair),(5,.ptr rg 5 y.2.1 0 0),(6,.ptr rg 6 y.2.2.1 0 0),(10,iZ (fail.length:Int)),(11,.ptr rg 11 y.2.2.2.1 0 0),(12,iZ x),(16,iZ x5),(42,iZ (1*2^(Int.toNat (fail.length:Int)))),(43,iZ x),(98,iZ (fail.length:Int)),(99,iZ x5),(114,.bool y.1)]) (λy=>stL S rg [(5,.arr 3 [aI f],y.2.1),(6,.arr 4 [.agg [iZ 0,iZ 0,.nil,.nil]],y.2.2.1),(11,.arr 4 [.agg [iZ (1*2^(Int.toNat (fail.length:Int))),iZ 0,.sl 5 rg 96 y.2.2.2.2.2 0 x6.length,.sl 1 rg 60 y.2.2.2.2.1 0 ((x1++[r]).length)]],y.2.2.2.1),(60,.arr 1 (List.map AV.bool<|x1++[r]),y.2.2.2.2.1),(96,.arr 5 (List.map cX x6),y.2.2.2.2.2)]) (λy h=>?_) (λ_ h=>?_)
   ·obtain⟨x7,⟨g30,g31,g32,g33,g34⟩⟩:=y
    refine cZ h O (λhb9 h=>?_) (λhb9 h=>?_)
    ·refine tkZ h (λhg11 h=>tkZ h (λhg12 h=>?_))
     obtain⟨r4,hc1,h⟩:=h
     refine tkZ h (λhg13 h=>Vc.drawn' mixed rg (gd [(12,pc (af r4))]) krZ ?_)
     refine wk 5 λh=>?_
     refine dP O O<|uU O O hg11 ?_
     refine wk 3 λh=>?_
     refine dP O O<|fv df bf dZ (λ_=>O) O O hg12 ?_
     refine wk 1 λh=>?_
     refine dP O O<|bx mg cx kw kp bf (ps:=[]) O O (v:=.agg [.bool false,.nil,.nil]) O<|dC (vs:=[af (at' fail x5),af (⟨false,[],[]⟩:GRat)]) O (vZ<|vl' (VW.aggL<|vZ<|vl' (VW.nilL)<|vl' (VW.nilL)<|vn)<|vn) (λ_=>bE hc1 (λ_ hr=>⟨by rw[hr],rfl⟩)) O<|dP O O<|bx xE oh Cq Bu Ay (ps:=[(0,iZ x),(1,iZ (bits .or .i64 x<|1*2^(Int.toNat x5))),(2,af r4)]) O O (v:=.agg [iZ x,iZ (bits .or .i64 x<|1*2^(Int.toNat x5)),.bool r4.U,aE r4.L,aE r4.W]) O (dL (E:=([],[(rg,129)])) O O zSm (cfa zAp eCf) (aV yL AN oh (es:=[.agg [iZ x,iZ (bits .or .i64 x<|1*2^(Int.toNat x5)),.bool r4.U,aE r4.L,aE r4.W]]) O (kk:=5) O O O O O O (λg35=>dL (E:=([(rg,129)],[(rg,96)])) O O zSm eCf (cu yL GS AN oh (es:=x6) (xs:=[(⟨x,(bits .or .i64 x<|1*2^(Int.toNat x5)),(⟨r4.U,r4.L,r4.W⟩:GRat)⟩:GMove)]) (enc:=cX) (aZ 96 O) lzZ (bi (aZ 129 O) lzZ) (kk:=5) O O (λ_=>O) (λ_=>O) hg13 O (λ_=>bY) (λg36=>?_)))))
     exact wk 9999 trivial
    exact wk 9999 trivial
   refine wk 3 λh=>?_
   refine tkZ h (λhg16 h=>am<|uT O O hg16 ?_)
   refine wk 3 λh=>?_
   refine gtZ h O O (λhb10 h=>?_) (λhb10 h=>?_)
   ·refine wk 8 λh hg17 h=>?_
    refine am<|clZ O<|bw h λr5 h=>?_
    exact wk 9999 trivial
   exact wk 9999 trivial
  exact wk 9999 trivial
 refine xsZ<|dA<|am<|cG (aZ 11 O) pX dZ yu O O (v:=.agg [iZ (1*2^(Int.toNat (fail.length:Int))),iZ 0,.sl 5 rg 96 g10 0 x2.length,.sl 1 rg 60 g9 0 x1.length]) O ?_
 refine wk 3 λh=>?_
 exact uZ<|aO (aZ 6 O) pX dZ yu O O (v:=.agg [iZ (1*2^(Int.toNat (fail.length:Int))),iZ 0,.sl 5 rg 96 g10 0 x2.length,.sl 1 rg 60 g9 0 x1.length]) O (aj (v:=.niface) O<|aq<|aP (k:=60) (xs:=List.map AV.bool x1) O (v':=.tuple [.agg [iZ (1*2^(Int.toNat (fail.length:Int))),iZ 0,.sl 5 rg 96 g10 0 x2.length,eL AV.bool x1],.niface]) (VW.tupL<|vl' (VW.aggL<|vZ<|vZ<|vl' (fT O)<|vl' (aL O)<|vn)<|vZ<|vn) (aP (k:=96) (xs:=List.map cX x2) O (v':=.tuple [.agg [iZ (1*2^(Int.toNat (fail.length:Int))),iZ 0,eL cX x2,eL AV.bool x1],.niface]) (VW.tupL<|vl' (VW.aggL<|vZ<|vZ<|vl' (aL O)<|vZ<|vn)<|vZ<|vn) (ar hrg eVw<|hQ _ _ h)))
theorem nE {fail:List GRat} {repair:List GRat} {Q:List GRat->Option Int->Prop} (h:gl fail repair Q) (hQ:∀r1 r2,Q r1 r2->R (.tuple [eL af r1,cw 39 r2]) S) :
  Ctr prog 11 [eL af fail,eL af repair] S R:=by
 refine au func11 rfl ntmps11 results11 krZ (λrg hrg=>?_)
 refine wk 10 λh=>?_
 refine am<|clZ O<|lY h λe h=>?_
 refine wk 7 λh=>?_
 refine cZ h O (λhb h=>?_) (λhb h=>?_)
 ·refine wk 6 λh=>?_
  exact uZ<|aj (v:=.nil) O<|aj (v:=cw 39 e) O<|aq<|ar hrg (VW.tupL<|vl' (VW.nilL)<|vZ<|vn)<|hQ _ _ h
 refine kZ<|dA<|am<|clZ O<|co h λr h=>wZ rg<|aV df iT cx (es:=[af r]) O (kk:=3) O O O O O O (λg1=>?_)
 refine wk 10 λh=>?_
 refine oV (aW (k:=22) (xs:=List.map af [r]) O (es:=[(0,eL af fail),(1,eL af repair),(7,eL af [r]),(24,iZ (fail.length:Int)),(25,iZ 0)]) (fZ<|fZ<|fc (aL O)<|fZ<|fZ<|fn) (m:=[]) (sn)) (lpZ h (λy=>aw [(0,eL af fail),(1,eL af repair),(7,eL af y.1),(24,iZ (fail.length:Int)),(25,iZ y.2)]) (λy=>stL S rg []) eCa (λy _ h=>?_))
 obtain⟨out,x⟩:=y
 refine wk 5 λh=>?_
 refine cZ h O (λhb1 h=>?_) (λhb1 h=>?_)
 ·refine wk 9 λh=>?_
  refine tkZ h (λhg h=>tkZ h (λhg1 h=>?_))
  obtain⟨r1,r2,hc,h⟩:=h
  refine Vc.drawn' mixed rg (gd [(8,pc (.tuple [af r1,cw 39 r2]))]) krZ ?_
  refine wk 2 λh=>?_
  refine dP O O<|fv df bf dZ (λ_=>O) O O hg ?_
  refine wk 3 λh=>?_
  refine dP O O<|fv df bf dZ (λ_=>O) O O hg1 ?_
  refine wk 1 λh=>?_
  refine dC (vs:=[af (at' fail x),af (at' repair x)]) O (vZ<|vZ<|vn) (λ_=>ip hc (λ_ _ hr=>⟨by rw[hr.1,hr.2],rfl⟩)) O ?_
  refine wk 13 λg2 h=>?_
  refine cZ h O (λhb2 h=>?_) (λhb2 h=>?_)
  ·refine wk 6 λh=>?_
   exact uZ<|aj (v:=.nil) O<|aj (v:=cw 39 r2) O<|aq<|ar hrg (VW.tupL<|vl' (VW.nilL)<|vZ<|vn)<|hQ _ _ h
  refine wk 14 λh=>?_
  refine Vc.mat 11 62 3 O dZ (λg3=>Vc.mat 12 54 3 O dZ (λg4=>lgZ h (g4,g3) (λy=>aw [(0,eL af fail),(1,eL af repair),(9,.ptr rg 9 g2 0 0),(11,.sl 3 rg 62 y.2.2 0 y.1.2.2.length),(12,.sl 3 rg 54 y.2.1 0 y.1.2.1.length),(24,iZ (fail.length:Int)),(25,iZ x),(43,eL af out),(44,iZ (out.length:Int)),(45,iZ y.1.1)]) (λy=>stL S rg [(9,.arr 3 [af r1],g2),(54,.arr 3 (List.map af y.1.2.1),y.2.1),(62,.arr 3 (List.map af y.1.2.2),y.2.2)]) (canon (fZ<|fZ<|fZ<|fc (VW.slen lzZ)<|fc (VW.slen lzZ)<|gb<|fZ<|fn)<|sc O<|sc O<|sc O<|sn) (λy _ h=>?_)))
  obtain⟨⟨x1,failed,works⟩,⟨g5,g6⟩⟩:=y
  refine wk 5 λh=>?_
  refine cZ h O (λhb3 h=>?_) (λhb3 h=>?_)
  ·refine wk 15 λg7 h hg2 h=>?_
   refine am<|clZ O<|ee h λr3 h=>wZ rg<|aV df iT cx (es:=[af r3]) O (kk:=3) O O O O O O (λg8=>tkZ h (λhg3 h=>wZ rg<|cu df iM iT cx (es:=failed) (xs:=[r3]) (enc:=af) (aZ 54 O) lzZ (bi (aZ 53 O) lzZ) (kk:=3) O O (λ_=>O) (λ_=>O) hg3 O (λ_=>bY) (λg9=>?_)))
   refine wk 2 λh=>?_
   obtain⟨r4,hc1,h⟩:=h
   obtain⟨r5,hc2,h⟩:=h
   obtain⟨r6,hc3,h⟩:=h
   refine tkZ h (λhg4 h=>Vc.drawn' mixed rg (gd [(2,pc (af r4)),(4,pc (af r5)),(5,pc (af r6))]) krZ ?_)
   refine wk 2 λh=>?_
   refine dC (vs:=[iZ 1]) O (vZ<|vn) (λ_=>co hc1 (λ_ hr=>⟨by rw[hr],rfl⟩)) O ?_
   refine wk 1 λh=>?_
   refine dC (vs:=[af r4,af r1]) O (vZ<|vZ<|vn) (λ_=>dm hc2 (λ_ hr=>⟨by rw[hr],rfl⟩)) O<|dC (vs:=[af (at' out x1),af r5]) O (vZ<|vZ<|vn) (λ_=>ee hc3 (λ_ hr=>⟨by rw[hr],rfl⟩)) O<|dL (E:=([],[(rg,61)])) O O zSm eCf (aV df iT cx (es:=[af r6]) O (kk:=3) O O O O O O (λg10=>dL (E:=([(rg,61)],[(rg,62)])) O O zSm eCf (cu df iM iT cx (es:=works) (xs:=[r6]) (enc:=af) (aZ 62 O) lzZ (bi (aZ 61 O) lzZ) (kk:=3) O O (λ_=>O) (λ_=>O) hg4 O (λ_=>bY) (λg11=>?_))))
   exact wk 9999 trivial
  refine wk 4 λh=>?_
  refine tkZ h (λhg6 h=>wZ rg<|cu df iM iT cx (es:=works) (xs:=failed) (enc:=af) (aZ 62 O) lzZ (bi (aZ 54 O) lzZ) (kk:=3) O O (λ_=>O) (λ_=>O) hg6 O (λ_=>bY) (λg12=>?_))
  refine wk 6 λh hg7 h=>?_
  exact⟨((works++failed),(x+1)),(EWk.trans (aW (k:=62) (xs:=List.map af (works++failed)) O (es:=[(0,eL af fail),(1,eL af repair),(7,eL af (works++failed)),(24,iZ (fail.length:Int)),(25,iZ (x+1))]) (fZ<|fZ<|fc (aL O)<|fZ<|fZ<|fn) (m:=[]) (sn)) (canon (gb<|fZ<|fn)<|sn)),h⟩
 refine wk 7 λh=>?_
 exact uZ<|aj (v:=eL af out) O<|aj (v:=.niface) O<|aq<|ar hrg eVw<|hQ _ _ h
end Go.Proofs.YtcmagbhiioheeaaGreatDoor
namespace Go.Proofs.YtcmagbhiioheeaaGreatDoor
open Go.Gg Tryz
set_option maxRecDepth 100000
set_option maxHeartbeats 2000000
variable {S:St} {R:AV->St->Prop}
theorem su {order:List Int} (qr kr0 kr1 kr2 kr3 kr4:Nat) {Q:List Int->List Int->GMap Int->GMap Int->Prop} {S:St} {R:AV->St->Prop} (h:iK order Q) (hQ:∀c1 c2 c3 c4 h0 h1 h2 h3 h4,Q c1 c2 c3 c4->R (.ptr qr kr0 h0 0 0) (stX S [(qr,kr0,.arr 5 [.agg [.sl 1 qr kr1 h1 0 c1.length,.sl 1 qr kr2 h2 0 c2.length,.nil,.map qr kr3 h3,.map qr kr4 h4]],h0),(qr,kr1,.arr 1 (List.map (AV.int .i64) c1),h1),(qr,kr2,.arr 1 (List.map (AV.int .i64) c2),h2),(qr,kr3,aC (AV.int .i64) zKt c3,h3),(qr,kr4,aC (AV.int .i64) zKt c4,h4)])) :
  Ctr prog 74 [eL (AV.int .i64) order] S R:=by
 unfold iK at h
 refine au func74 rfl ntmps74 results74 krZ (λrg hrg=>?_)
 refine wk 5 λh=>?_
 refine tkZ h (λhg h=>tkZ h (λhg1 h=>Vc.drawn' mixed rg (λ_=>iV) krZ ?_))
 refine wk 1 λh=>?_
 refine dL (E:=([],[(rg,7)])) O O zSm eCf (Gl ge oS ok3 gC (xs:=order) (enc:=iZ) (O) (kk:=1) O O (λ_=>O) (λ_=>O) hg O (λg1=>?_))
 refine wk 2 λh=>?_
 refine dL (E:=([],[(rg,10)])) O O zSm (cfa zAp eCf) (fg ge oS ok3 (enc:=iZ) (z':=0) gC (kk:=1) O O O hg1 (λg2=>dL (E:=([],[(rg,11)])) O O zSm (cfa zAp<|cfa zAp eCf) (mR (enc:=iZ) yN AX trivial (λg3=>dL (E:=([],[(rg,12)])) O O zSm (cfa zAp<|cfa zAp<|cfa zAp eCf) (mR (enc:=iZ) yM AW trivial (λg4=>dP O O<|bx sK Am UT Rv FB (ps:=[(0,.sl 1 rg 7 g1 0 order.length),(1,.sl 1 rg 10 g2 0 (Int.toNat (order.length:Int))),(3,.map rg 11 g3),(4,.map rg 12 g4)]) O O (v:=.agg [.sl 1 rg 7 g1 0 order.length,.sl 1 rg 10 g2 0 (Int.toNat (order.length:Int)),.nil,.map rg 11 g3,.map rg 12 g4]) O ?_))))))
 refine wk 11 λg5 h=>?_
 refine lpZ h (λy=>aw [(3,.ptr rg 14 g5 0 0),(15,cp order),(16,iZ (order.length:Int)),(17,iZ y.1)]) (λy=>stL S rg [(7,.arr 1 (List.map iZ order),g1),(10,.arr 1 (List.map iZ y.2),g2),(11,aC iZ zKt (ib:GMap Int),g3),(12,aC iZ zKt (ib:GMap Int),g4),(14,.arr 5 [.agg [.sl 1 rg 7 g1 0 order.length,.sl 1 rg 10 g2 0 y.2.length,.nil,.map rg 11 g3,.map rg 12 g4]],g5)]) (EWk.trans (EWk.ow (k:=14) (o':=.arr 5 [.agg [.sl 1 rg 7 g1 0 order.length,.sl 1 rg 10 g2 0 ((aQ (order.length:Int) 0).length),.nil,.map rg 11 g3,.map rg 12 g4]]) O (OW.one<|VWL.vwc<|vZ<|vl' (VW.slen lzZ)<|vZ<|vZ<|vZ<|vn)) (canon (gb<|fn)<|od O O O O<|sc O<|sn)) (λy _ h=>?_)
 obtain⟨x,x1⟩:=y
 refine wk 5 λh=>?_
 refine cZ h O (λhb h=>?_) (λhb h=>?_)
 ·refine wk 25 λh hg2 h hi h hg3 h=>?_
  exact⟨((x+1),(aN x1 (at' order x) x)),(EWk.trans (EWk.ow (k:=14) (o':=.arr 5 [.agg [.sl 1 rg 7 g1 0 order.length,.sl 1 rg 10 g2 0 ((aN x1 (at' order x) x).length),.nil,.map rg 11 g3,.map rg 12 g4]]) O (OW.one<|VWL.vwc<|vZ<|vl' (VW.slen lzZ)<|vZ<|vZ<|vZ<|vn)) (canon (gb<|fn)<|od O O O O<|sc O<|sn)),h⟩
 refine wk 6 λh=>?_
 exact uZ<|aj (v:=.ptr rg 14 g5 0 0) O<|aq<|vG qr hrg [(14,g5,.arr 5 [.agg [.sl 1 rg 7 g1 0 order.length,.sl 1 rg 10 g2 0 x1.length,.nil,.map rg 11 g3,.map rg 12 g4]],kr0),(7,g1,.arr 1 (List.map iZ order),kr1),(10,g2,.arr 1 (List.map iZ x1),kr2),(11,g3,aC iZ zKt (ib:GMap Int),kr3),(12,g4,aC iZ zKt (ib:GMap Int),kr4)] ⟨rfl,rfl,rfl,rfl,rfl,rfl,rfl,rfl,rfl,rfl,trivial⟩ (λγ=>.ptr qr kr0 (γ 0) 0 0) (λγ=>[(qr,kr0,.arr 5 [.agg [.sl 1 qr kr1 (γ 1) 0 order.length,.sl 1 qr kr2 (γ 2) 0 x1.length,.nil,.map qr kr3 (γ 3),.map qr kr4 (γ 4)]],γ 0),(qr,kr1,.arr 1 (List.map iZ order),γ 1),(qr,kr2,.arr 1 (List.map iZ x1),γ 2),(qr,kr3,aC iZ zKt (ib:GMap Int),γ 3),(qr,kr4,aC iZ zKt (ib:GMap Int),γ 4)]) (λγ=>CJ (abA<|FM (CL 1 O)<|FM (CL 2 O)<|FM (nu)<|FM (Xm 3 O)<|FM (Xm 4 O)<|abC)<|CJ (CK)<|CJ (CK)<|CJ (CK)<|CJ (CK)<|Xj) (λγ=>abB 0 O) (λγ=>hQ _ _ _ _ _ _ _ _ _ h)
theorem fO {v:Int} {lo:Int} {hi:Int} {order:List Int} {place:List Int} {nodes:List GDNode} {unique:GMap Int} {memo:GMap Int} {q0 k0 g0 q1 k1 g1 q2 k2 g2 q3 k3 g3 q4 k4 g4 q5 k5 g5:Nat} (hdk:DK [(q0,k0),(q3,k3),(q4,k4),(q1,k1),(q2,k2),(q5,k5)]) {Q:List GDNode->GMap Int->Int->Prop} (h:ck v lo hi order place nodes unique memo Q) (hQ:∀r1 r2 r3,∀h3,Q r1 r2 r3->R (iZ r3) (stX S [(q0,k0,.arr 5 [.agg [.sl 1 q1 k1 g1 0 order.length,.sl 1 q2 k2 g2 0 place.length,.sl 3 q3 k3 h3 0 r1.length,.map q4 k4 g4,.map q5 k5 g5]],g0),(q3,k3,.arr 3 (List.map aG r1),h3),(q4,k4,aC iZ zKt r2,g4),(q1,k1,.arr 1 (List.map iZ order),g1),(q2,k2,.arr 1 (List.map iZ place),g2),(q5,k5,aC iZ zKt memo,g5)])) :
  Ctr prog 113 [.ptr q0 k0 g0 0 0,iZ v,iZ lo,iZ hi] (stX S [(q0,k0,.arr 5 [.agg [.sl 1 q1 k1 g1 0 order.length,.sl 1 q2 k2 g2 0 place.length,.sl 3 q3 k3 g3 0 nodes.length,.map q4 k4 g4,.map q5 k5 g5]],g0),(q3,k3,.arr 3 (List.map aG nodes),g3),(q4,k4,aC iZ zKt unique,g4),(q1,k1,.arr 1 (List.map iZ order),g1),(q2,k2,.arr 1 (List.map iZ place),g2),(q5,k5,aC iZ zKt memo,g5)]) R:=by
 refine au func113 rfl ntmps113 results113 krZ (λrg hrg=>?_)
 have hdx:DX [(q0,k0,.arr 5 [.agg [.sl 1 q1 k1 g1 0 order.length,.sl 1 q2 k2 g2 0 place.length,.sl 3 q3 k3 g3 0 nodes.length,.map q4 k4 g4,.map q5 k5 g5]],g0),(q3,k3,.arr 3 (List.map aG nodes),g3),(q4,k4,aC iZ zKt unique,g4),(q1,k1,.arr 1 (List.map iZ order),g1),(q2,k2,.arr 1 (List.map iZ place),g2),(q5,k5,aC iZ zKt memo,g5)]:=hdk
 have hfr:=λX' e=>bF (S:=S) (rg:=rg) (X:=[(q0,k0,.arr 5 [.agg [.sl 1 q1 k1 g1 0 order.length,.sl 1 q2 k2 g2 0 place.length,.sl 3 q3 k3 g3 0 nodes.length,.map q4 k4 g4,.map q5 k5 g5]],g0),(q3,k3,.arr 3 (List.map aG nodes),g3),(q4,k4,aC iZ zKt unique,g4),(q1,k1,.arr 1 (List.map iZ order),g1),(q2,k2,.arr 1 (List.map iZ place),g2),(q5,k5,aC iZ zKt memo,g5)]) (X':=X') e hrg
 have hne0:=ak hdx hrg 0 rfl
 have hne3:=ak hdx hrg 1 rfl
 have hne4:=ak hdx hrg 2 rfl
 have hne1:=ak hdx hrg 3 rfl
 have hne2:=ak hdx hrg 4 rfl
 have hne5:=ak hdx hrg 5 rfl
 refine wk 11 λh=>?_
 refine cZ h O (λhb h=>?_) (λhb h=>?_)
 ·refine wk 5 λh=>?_
  exact uZ<|gv1 (hfr _ O)<|hQ _ _ _ _ h
 refine wk 6 λh=>?_
 refine am<|bx ue ol GT Fx pE (ps:=[(0,iZ v),(1,iZ lo),(2,iZ hi)]) O O (v:=.agg [iZ v,iZ lo,iZ hi]) O ?_
 refine wk 4 λg6 h=>?_
 refine Vc.drawn' mixed rg (λ_=>iV) krZ ?_
 refine wk 4 λh=>?_
 refine dL (E:=([(rg,9)],[])) O O zSm (cfa zAp eCf) (cG (aZ 9 O) pE dZ Aj O O (v:=.agg [iZ v,iZ lo,iZ hi]) O<|dL (E:=([(q4,k4)],[])) O O zSm eCf (pf (atX hne4 hdx 2 O) yN AX ok3 (z:=0) gC O O ?_))
 refine wk 12 λh=>?_
 refine cZ h O (λhb1 h=>?_) (λhb1 h=>?_)
 ·refine wk 11 λh hg h=>?_
  refine tkZ h (λhg1 h=>Vc.drawn' mixed rg (λ_=>iV) krZ ?_)
  refine wk 5 λh=>?_
  refine dL (E:=([(rg,9)],[])) O O zSm (cfa zAp eCf) (cG (aZ 9 O) pE dZ Aj O O (v:=.agg [iZ v,iZ lo,iZ hi]) O<|dL (E:=([],[(rg,43)])) O O zSm (cfo krZ<|cfa (by simp[mH,Ne.symm hne0]) eCf) (aV xD wV ol (es:=[.agg [iZ v,iZ lo,iZ hi]]) O (kk:=3) O O O O O O (λg7=>dL (E:=([(rg,43)],[(q3,k3)])) O O zSm eCf (cu xD Ba wV ol (es:=nodes) (xs:=[(⟨v,lo,hi⟩:GDNode)]) (enc:=aG) (atX hne3 hdx 1 O) lzZ (bi (aZ 43 O) lzZ) (kk:=3) O O (λ_=>O) (λ_=>O) hg1 O (λ_=>(bp hne3 hdx 1 O O)) (λg8=>?_)))))
  refine wk 4 λh=>?_
  refine Vc.drawn' mixed rg (λ_=>iV) krZ ?_
  refine wk 4 λh=>?_
  refine dL (E:=([(rg,9)],[])) O O zSm (cfa zAp eCf) (cG (aZ 9 O) pE dZ Aj O O (v:=.agg [iZ v,iZ lo,iZ hi]) O ?_)
  refine wk 1 λh=>?_
  refine dL (E:=([],[(q4,k4)])) O O zSm eCf (oE (v:=(2+(nodes.length:Int))) (atX hne4 hdx 2 O) yN AX O O O (bp hne4 hdx 2 O O) ?_)
  refine wk 6 λh=>?_
  exact uZ<|gv1 (hfr _ O)<|hQ _ _ _ _ h
 refine wk 6 λh=>?_
 exact uZ<|gv1 (hfr _ O)<|hQ _ _ _ _ h
theorem jO {i:Int} {order:List Int} {place:List Int} {nodes:List GDNode} {unique:GMap Int} {memo:GMap Int} {q0 k0 g0 q1 k1 g1 q2 k2 g2 q3 k3 g3 q4 k4 g4 q5 k5 g5:Nat} (hdk:DK [(q0,k0),(q3,k3),(q4,k4),(q1,k1),(q2,k2),(q5,k5)]) {Q:List GDNode->GMap Int->Int->Prop} (h:cJ i order place nodes unique memo Q) (hQ:∀r1 r2 r3,∀h3,Q r1 r2 r3->R (iZ r3) (stX S [(q0,k0,.arr 5 [.agg [.sl 1 q1 k1 g1 0 order.length,.sl 1 q2 k2 g2 0 place.length,.sl 3 q3 k3 h3 0 r1.length,.map q4 k4 g4,.map q5 k5 g5]],g0),(q3,k3,.arr 3 (List.map aG r1),h3),(q4,k4,aC iZ zKt r2,g4),(q1,k1,.arr 1 (List.map iZ order),g1),(q2,k2,.arr 1 (List.map iZ place),g2),(q5,k5,aC iZ zKt memo,g5)])) :
  Ctr prog 75 [.ptr q0 k0 g0 0 0,iZ i] (stX S [(q0,k0,.arr 5 [.agg [.sl 1 q1 k1 g1 0 order.length,.sl 1 q2 k2 g2 0 place.length,.sl 3 q3 k3 g3 0 nodes.length,.map q4 k4 g4,.map q5 k5 g5]],g0),(q3,k3,.arr 3 (List.map aG nodes),g3),(q4,k4,aC iZ zKt unique,g4),(q1,k1,.arr 1 (List.map iZ order),g1),(q2,k2,.arr 1 (List.map iZ place),g2),(q5,k5,aC iZ zKt memo,g5)]) R:=by
 refine au func75 rfl ntmps75 results75 krZ (λrg hrg=>?_)
 have hdx:DX [(q0,k0,.arr 5 [.agg [.sl 1 q1 k1 g1 0 order.length,.sl 1 q2 k2 g2 0 place.length,.sl 3 q3 k3 g3 0 nodes.length,.map q4 k4 g4,.map q5 k5 g5]],g0),(q3,k3,.arr 3 (List.map aG nodes),g3),(q4,k4,aC iZ zKt unique,g4),(q1,k1,.arr 1 (List.map iZ order),g1),(q2,k2,.arr 1 (List.map iZ place),g2),(q5,k5,aC iZ zKt memo,g5)]:=hdk
 have hfr:=λX' e=>bF (S:=S) (rg:=rg) (X:=[(q0,k0,.arr 5 [.agg [.sl 1 q1 k1 g1 0 order.length,.sl 1 q2 k2 g2 0 place.length,.sl 3 q3 k3 g3 0 nodes.length,.map q4 k4 g4,.map q5 k5 g5]],g0),(q3,k3,.arr 3 (List.map aG nodes),g3),(q4,k4,aC iZ zKt unique,g4),(q1,k1,.arr 1 (List.map iZ order),g1),(q2,k2,.arr 1 (List.map iZ place),g2),(q5,k5,aC iZ zKt memo,g5)]) (X':=X') e hrg
 have hne0:=ak hdx hrg 0 rfl
 have hne3:=ak hdx hrg 1 rfl
 have hne4:=ak hdx hrg 2 rfl
 have hne1:=ak hdx hrg 3 rfl
 have hne2:=ak hdx hrg 4 rfl
 have hne5:=ak hdx hrg 5 rfl
 refine wk 8 λh=>?_
 exact am<|clZ O<|fj (ah (atX hne0 hdx 0 O)<|ah (atX hne3 hdx 1 O)<|ah (atX hne4 hdx 2 O)<|ah (atX hne1 hdx 3 O)<|ah (atX hne2 hdx 4 O)<|ah (atX hne5 hdx 5 O)<|bI)<|fO (dkS [0,1,2,3,4,5] hdk O O) h λu u1 r g6 h=>bL (bD (bD (bD (ah (atX hne1 hdx 3 O)<|ah (atX hne2 hdx 4 O)<|ah (atX hne5 hdx 5 O)<|bI)<|bp hne4 hdx 2 O O)<|bp hne3 hdx 1 O O)<|bp hne0 hdx 0 O O)<|asZ (iZ r) O<|fI<|gv1 (hfr _ O)<|hQ _ _ _ _ h
theorem cD {r:Int} {order:List Int} {place:List Int} {nodes:List GDNode} {unique:GMap Int} {memo:GMap Int} {q0 k0 g0 q1 k1 g1 q2 k2 g2 q3 k3 g3 q4 k4 g4 q5 k5 g5:Nat} (hdk:DK [(q0,k0),(q1,k1),(q2,k2),(q3,k3),(q4,k4),(q5,k5)]) {Q:Int->Prop} (h:a_ r order place nodes unique memo Q) (hQ:∀r1,Q r1->R (iZ r1) (stX S [(q0,k0,.arr 5 [.agg [.sl 1 q1 k1 g1 0 order.length,.sl 1 q2 k2 g2 0 place.length,.sl 3 q3 k3 g3 0 nodes.length,.map q4 k4 g4,.map q5 k5 g5]],g0),(q1,k1,.arr 1 (List.map iZ order),g1),(q2,k2,.arr 1 (List.map iZ place),g2),(q3,k3,.arr 3 (List.map aG nodes),g3),(q4,k4,aC iZ zKt unique,g4),(q5,k5,aC iZ zKt memo,g5)])) :
  Ctr prog 142 [.ptr q0 k0 g0 0 0,iZ r] (stX S [(q0,k0,.arr 5 [.agg [.sl 1 q1 k1 g1 0 order.length,.sl 1 q2 k2 g2 0 place.length,.sl 3 q3 k3 g3 0 nodes.length,.map q4 k4 g4,.map q5 k5 g5]],g0),(q1,k1,.arr 1 (List.map iZ order),g1),(q2,k2,.arr 1 (List.map iZ place),g2),(q3,k3,.arr 3 (List.map aG nodes),g3),(q4,k4,aC iZ zKt unique,g4),(q5,k5,aC iZ zKt memo,g5)]) R:=by
 refine au func142 rfl ntmps142 results142 krZ (λrg hrg=>?_)
 have hdx:DX [(q0,k0,.arr 5 [.agg [.sl 1 q1 k1 g1 0 order.length,.sl 1 q2 k2 g2 0 place.length,.sl 3 q3 k3 g3 0 nodes.length,.map q4 k4 g4,.map q5 k5 g5]],g0),(q1,k1,.arr 1 (List.map iZ order),g1),(q2,k2,.arr 1 (List.map iZ place),g2),(q3,k3,.arr 3 (List.map aG nodes),g3),(q4,k4,aC iZ zKt unique,g4),(q5,k5,aC iZ zKt memo,g5)]:=hdk
 have hfr:=λX' e=>bF (S:=S) (rg:=rg) (X:=[(q0,k0,.arr 5 [.agg [.sl 1 q1 k1 g1 0 order.length,.sl 1 q2 k2 g2 0 place.length,.sl 3 q3 k3 g3 0 nodes.length,.map q4 k4 g4,.map q5 k5 g5]],g0),(q1,k1,.arr 1 (List.map iZ order),g1),(q2,k2,.arr 1 (List.map iZ place),g2),(q3,k3,.arr 3 (List.map aG nodes),g3),(q4,k4,aC iZ zKt unique,g4),(q5,k5,aC iZ zKt memo,g5)]) (X':=X') e hrg
 have hne0:=ak hdx hrg 0 rfl
 have hne1:=ak hdx hrg 1 rfl
 have hne2:=ak hdx hrg 2 rfl
 have hne3:=ak hdx hrg 3 rfl
 have hne4:=ak hdx hrg 4 rfl
 have hne5:=ak hdx hrg 5 rfl
 refine wk 10 λh=>?_
 refine cZ h O (λhb h=>?_) (λhb h=>?_)
 ·refine wk 9 λh=>?_
  exact uZ<|gv1 (hfr _ O)<|hQ _ h
 refine kZ<|qZ<|tkZ h (λhg h=>tkZ h (λhi h=>tkZ h (λhi1 h=>Vc.drawn' mixed rg (λ_=>iV) krZ ?_)))
 refine wk 9 λh=>?_
 refine dP O O<|jY O O hg<|dP O O<|aS xD pE dZ O O hi ?_
 refine wk 2 λh=>?_
 refine dP O O<|aS ge sz3 dZ O O hi1 ?_
 refine wk 3 λh=>?_
 exact uZ<|gv1 (hfr _ O)<|hQ _ h
theorem dX {r:Int} {level:Int} {order:List Int} {place:List Int} {nodes:List GDNode} {unique:GMap Int} {memo:GMap Int} {q0 k0 g0 q1 k1 g1 q2 k2 g2 q3 k3 g3 q4 k4 g4 q5 k5 g5:Nat} (hdk:DK [(q0,k0),(q1,k1),(q2,k2),(q3,k3),(q4,k4),(q5,k5)]) {Q:Int->Int->Prop} (h:br r level order place nodes unique memo Q) (hQ:∀r1 r2,Q r1 r2->R (.tuple [iZ r1,iZ r2]) (stX S [(q0,k0,.arr 5 [.agg [.sl 1 q1 k1 g1 0 order.length,.sl 1 q2 k2 g2 0 place.length,.sl 3 q3 k3 g3 0 nodes.length,.map q4 k4 g4,.map q5 k5 g5]],g0),(q1,k1,.arr 1 (List.map iZ order),g1),(q2,k2,.arr 1 (List.map iZ place),g2),(q3,k3,.arr 3 (List.map aG nodes),g3),(q4,k4,aC iZ zKt unique,g4),(q5,k5,aC iZ zKt memo,g5)])) :
  Ctr prog 143 [.ptr q0 k0 g0 0 0,iZ r,iZ level] (stX S [(q0,k0,.arr 5 [.agg [.sl 1 q1 k1 g1 0 order.length,.sl 1 q2 k2 g2 0 place.length,.sl 3 q3 k3 g3 0 nodes.length,.map q4 k4 g4,.map q5 k5 g5]],g0),(q1,k1,.arr 1 (List.map iZ order),g1),(q2,k2,.arr 1 (List.map iZ place),g2),(q3,k3,.arr 3 (List.map aG nodes),g3),(q4,k4,aC iZ zKt unique,g4),(q5,k5,aC iZ zKt memo,g5)]) R:=by
 refine au func143 rfl ntmps143 results143 krZ (λrg hrg=>?_)
 have hdx:DX [(q0,k0,.arr 5 [.agg [.sl 1 q1 k1 g1 0 order.length,.sl 1 q2 k2 g2 0 place.length,.sl 3 q3 k3 g3 0 nodes.length,.map q4 k4 g4,.map q5 k5 g5]],g0),(q1,k1,.arr 1 (List.map iZ order),g1),(q2,k2,.arr 1 (List.map iZ place),g2),(q3,k3,.arr 3 (List.map aG nodes),g3),(q4,k4,aC iZ zKt unique,g4),(q5,k5,aC iZ zKt memo,g5)]:=hdk
 have hfr:=λX' e=>bF (S:=S) (rg:=rg) (X:=[(q0,k0,.arr 5 [.agg [.sl 1 q1 k1 g1 0 order.length,.sl 1 q2 k2 g2 0 place.length,.sl 3 q3 k3 g3 0 nodes.length,.map q4 k4 g4,.map q5 k5 g5]],g0),(q1,k1,.arr 1 (List.map iZ order),g1),(q2,k2,.arr 1 (List.map iZ place),g2),(q3,k3,.arr 3 (List.map aG nodes),g3),(q4,k4,aC iZ zKt unique,g4),(q5,k5,aC iZ zKt memo,g5)]) (X':=X') e hrg
 have hne0:=ak hdx hrg 0 rfl
 have hne1:=ak hdx hrg 1 rfl
 have hne2:=ak hdx hrg 2 rfl
 have hne3:=ak hdx hrg 3 rfl
 have hne4:=ak hdx hrg 4 rfl
 have hne5:=ak hdx hrg 5 rfl
 refine wk 10 λh=>?_
 refine am<|clZ O<|fj (ah (atX hne0 hdx 0 O)<|ah (atX hne1 hdx 1 O)<|ah (atX hne2 hdx 2 O)<|ah (atX hne3 hdx 3 O)<|ah (atX hne4 hdx 4 O)<|ah (atX hne5 hdx 5 O)<|bI)<|cD (dkS [0,1,2,3,4,5] hdk O O) h λr1 h=>bL (ah (atX hne0 hdx 0 O)<|ah (atX hne1 hdx 1 O)<|ah (atX hne2 hdx 2 O)<|ah (atX hne3 hdx 3 O)<|ah (atX hne4 hdx 4 O)<|ah (atX hne5 hdx 5 O)<|bI) ?_
 refine wk 3 λh=>?_
 refine cZ h O (λhb h=>?_) (λhb h=>?_)
 ·refine wk 7 λh=>?_
  exact uZ<|aj (v:=iZ r) O<|aj (v:=iZ r) O<|aq<|ar (hfr _ O) eVw<|hQ _ _ h
 refine wk 15 λg6 h hg h hi h=>?_
 refine Vc.drawn' mixed rg (λ_=>iV) krZ ?_
 refine wk 7 λh=>?_
 exact uZ<|aj (v:=iZ ((at' nodes<|r-2).E)) O (aj (v:=iZ ((at' nodes<|r-2).I)) O (aq<|ar (hfr _ O) eVw<|hQ _ _ h))
theorem bN {fu:Nat}:∀ {c:Int} {a:Int} {b:Int} {order:List Int} {place:List Int} {nodes:List GDNode} {unique:GMap Int} {memo:GMap Int} {q0 k0 g0 q1 k1 g1 q2 k2 g2 q3 k3 g3 q4 k4 g4 q5 k5 g5:Nat} (hdk:DK [(q0,k0),(q3,k3),(q4,k4),(q5,k5),(q1,k1),(q2,k2)]) {Q:List GDNode->GMap Int->GMap Int->Int->Prop} {S:St} {R:AV->St->Prop} (h:an fu c a b order place nodes unique memo Q) (hQ:∀r1 r2 r3 r4,∀h3,Q r1 r2 r3 r4->R (iZ r4) (stX S [(q0,k0,.arr 5 [.agg [.sl 1 q1 k1 g1 0 order.length,.sl 1 q2 k2 g2 0 place.length,.sl 3 q3 k3 h3 0 r1.length,.map q4 k4 g4,.map q5 k5 g5]],g0),(q3,k3,.arr 3 (List.map aG r1),h3),(q4,k4,aC iZ zKt r2,g4),(q5,k5,aC iZ zKt r3,g5),(q1,k1,.arr 1 (List.map iZ order),g1),(q2,k2,.arr 1 (List.map iZ place),g2)])),
  Ctr prog 137 [.ptr q0 k0 g0 0 0,iZ c,iZ a,iZ b] (stX S [(q0,k0,.arr 5 [.agg [.sl 1 q1 k1 g1 0 order.length,.sl 1 q2 k2 g2 0 place.length,.sl 3 q3 k3 g3 0 nodes.length,.map q4 k4 g4,.map q5 k5 g5]],g0),(q3,k3,.arr 3 (List.map aG nodes),g3),(q4,k4,aC iZ zKt unique,g4),(q5,k5,aC iZ zKt memo,g5),(q1,k1,.arr 1 (List.map iZ order),g1),(q2,k2,.arr 1 (List.map iZ place),g2)]) R:=by
 induction fu with
 | zero=>
  intro c a b order place nodes unique memo q0 k0 g0 q1 k1 g1 q2 k2 g2 q3 k3 g3 q4 k4 g4 q5 k5 g5 hdk Q S R h hQ
  exact False.elim h
 | succ fu ih=>
 intro c a b order place nodes unique memo q0 k0 g0 q1 k1 g1 q2 k2 g2 q3 k3 g3 q4 k4 g4 q5 k5 g5 hdk Q S R h hQ
 rw[an] at h
 refine au func137 rfl ntmps137 results137 krZ (λrg hrg=>?_)
 have hdx:DX [(q0,k0,.arr 5 [.agg [.sl 1 q1 k1 g1 0 order.length,.sl 1 q2 k2 g2 0 place.length,.sl 3 q3 k3 g3 0 nodes.length,.map q4 k4 g4,.map q5 k5 g5]],g0),(q3,k3,.arr 3 (List.map aG nodes),g3),(q4,k4,aC iZ zKt unique,g4),(q5,k5,aC iZ zKt memo,g5),(q1,k1,.arr 1 (List.map iZ order),g1),(q2,k2,.arr 1 (List.map iZ place),g2)]:=hdk
 have hfr:=λX' e=>bF (S:=S) (rg:=rg) (X:=[(q0,k0,.arr 5 [.agg [.sl 1 q1 k1 g1 0 order.length,.sl 1 q2 k2 g2 0 place.length,.sl 3 q3 k3 g3 0 nodes.length,.map q4 k4 g4,.map q5 k5 g5]],g0),(q3,k3,.arr 3 (List.map aG nodes),g3),(q4,k4,aC iZ zKt unique,g4),(q5,k5,aC iZ zKt memo,g5),(q1,k1,.arr 1 (List.map iZ order),g1),(q2,k2,.arr 1 (List.map iZ place),g2)]) (X':=X') e hrg
 have hne0:=ak hdx hrg 0 rfl
 have hne3:=ak hdx hrg 1 rfl
 have hne4:=ak hdx hrg 2 rfl
 have hne5:=ak hdx hrg 3 rfl
 have hne1:=ak hdx hrg 4 rfl
 have hne2:=ak hdx hrg 5 rfl
 refine dA<|asZ (iZ 0) O<|nZ<|jnZ h (λy=>aw [(0,.ptr q0 k0 g0 0 0),(1,iZ c),(2,iZ a),(3,iZ b)]) (λy=>stL (stX S [(q0,k0,.arr 5 [.agg [.sl 1 q1 k1 g1 0 order.length,.sl 1 q2 k2 g2 0 place.length,.sl 3 q3 k3 g3 0 nodes.length,.map q4 k4 g4,.map q5 k5 g5]],g0),(q3,k3,.arr 3 (List.map aG nodes),g3),(q4,k4,aC iZ zKt unique,g4),(q5,k5,aC iZ zKt memo,g5),(q1,k1,.arr 1 (List.map iZ order),g1),(q2,k2,.arr 1 (List.map iZ place),g2)]) rg []) (λ_ h=>?_) (λ_ h=>?_)
 ·refine wk 5 λh=>?_
  refine wZ rg<|Gk Fv Al F6 O sz3 dZ yU (ps:=[(0,iZ c),(1,iZ a),(2,iZ b)]) O O (v:=.agg [iZ c,iZ a,iZ b]) O ?_
  refine wk 5 λg6 h=>?_
  refine Vc.drawn' mixed rg (λ_=>iV) krZ ?_
  refine wk 4 λh=>?_
  refine dL (E:=([(rg,9)],[])) O O zSm (cfa zAp eCf) (cG (aZ 9 O) yU dZ Cv O O (v:=.agg [iZ c,iZ a,iZ b]) O<|dL (E:=([(q5,k5)],[])) O O zSm eCf (pf (atX hne5 hdx 3 O) yM AW ok3 (z:=0) gC O O ?_))
  refine wk 10 λh=>?_
  refine cZ h O (λhb h=>?_) (λhb h=>?_)
  ·refine wk 5 λh=>?_
   exact uZ<|gv1 (hfr _ O)<|hQ _ _ _ _ _ h
  refine wk 5 λh=>?_
  refine am<|clZ O<|fj (ah (atX hne0 hdx 0 O)<|ah (atX hne1 hdx 4 O)<|ah (atX hne2 hdx 5 O)<|ah (atX hne3 hdx 1 O)<|ah (atX hne4 hdx 2 O)<|ah (atX hne5 hdx 3 O)<|bI)<|cD (dkS [0,4,5,1,2,3] hdk O O) h λr h=>bL (ah (atX hne0 hdx 0 O)<|ah (atX hne1 hdx 4 O)<|ah (atX hne2 hdx 5 O)<|ah (atX hne3 hdx 1 O)<|ah (atX hne4 hdx 2 O)<|ah (atX hne5 hdx 3 O)<|bI) ?_
  refine wk 2 λh=>?_
  refine am<|clZ O<|fj (ah (atX hne0 hdx 0 O)<|ah (atX hne1 hdx 4 O)<|ah (atX hne2 hdx 5 O)<|ah (atX hne3 hdx 1 O)<|ah (atX hne4 hdx 2 O)<|ah (atX hne5 hdx 3 O)<|bI)<|cD (dkS [0,4,5,1,2,3] hdk O O) h λr1 h=>bL (ah (atX hne0 hdx 0 O)<|ah (atX hne1 hdx 4 O)<|ah (atX hne2 hdx 5 O)<|ah (atX hne3 hdx 1 O)<|ah (atX hne4 hdx 2 O)<|ah (atX hne5 hdx 3 O)<|bI) ?_
  refine wk 2 λh=>?_
  refine am<|clZ O<|fj (ah (atX hne0 hdx 0 O)<|ah (atX hne1 hdx 4 O)<|ah (atX hne2 hdx 5 O)<|ah (atX hne3 hdx 1 O)<|ah (atX hne4 hdx 2 O)<|ah (atX hne5 hdx 3 O)<|bI)<|cD (dkS [0,4,5,1,2,3] hdk O O) h λr2 h=>bL (ah (atX hne0 hdx 0 O)<|ah (atX hne1 hdx 4 O)<|ah (atX hne2 hdx 5 O)<|ah (atX hne3 hdx 1 O)<|ah (atX hne4 hdx 2 O)<|ah (atX hne5 hdx 3 O)<|bI)<|am<|RX O O O ?_
  refine wk 7 λh=>?_
  refine am<|clZ O<|fj (ah (atX hne0 hdx 0 O)<|ah (atX hne1 hdx 4 O)<|ah (atX hne2 hdx 5 O)<|ah (atX hne3 hdx 1 O)<|ah (atX hne4 hdx 2 O)<|ah (atX hne5 hdx 3 O)<|bI)<|dX (dkS [0,4,5,1,2,3] hdk O O) h λr3 r4 h=>bL (ah (atX hne0 hdx 0 O)<|ah (atX hne1 hdx 4 O)<|ah (atX hne2 hdx 5 O)<|ah (atX hne3 hdx 1 O)<|ah (atX hne4 hdx 2 O)<|ah (atX hne5 hdx 3 O)<|bI) ?_
  refine wk 11 λh=>?_
  refine am<|clZ O<|fj (ah (atX hne0 hdx 0 O)<|ah (atX hne1 hdx 4 O)<|ah (atX hne2 hdx 5 O)<|ah (atX hne3 hdx 1 O)<|ah (atX hne4 hdx 2 O)<|ah (atX hne5 hdx 3 O)<|bI)<|dX (dkS [0,4,5,1,2,3] hdk O O) h λr5 r6 h=>bL (ah (atX hne0 hdx 0 O)<|ah (atX hne1 hdx 4 O)<|ah (atX hne2 hdx 5 O)<|ah (atX hne3 hdx 1 O)<|ah (atX hne4 hdx 2 O)<|ah (atX hne5 hdx 3 O)<|bI) ?_
  refine wk 11 λh=>?_
  refine am<|clZ O<|fj (ah (atX hne0 hdx 0 O)<|ah (atX hne1 hdx 4 O)<|ah (atX hne2 hdx 5 O)<|ah (atX hne3 hdx 1 O)<|ah (atX hne4 hdx 2 O)<|ah (atX hne5 hdx 3 O)<|bI)<|dX (dkS [0,4,5,1,2,3] hdk O O) h λr7 r8 h=>bL (ah (atX hne0 hdx 0 O)<|ah (atX hne1 hdx 4 O)<|ah (atX hne2 hdx 5 O)<|ah (atX hne3 hdx 1 O)<|ah (atX hne4 hdx 2 O)<|ah (atX hne5 hdx 3 O)<|bI) ?_
  refine wk 12 λh=>?_
  refine am<|clZ O<|fj (ah (atX hne0 hdx 0 O)<|ah (atX hne3 hdx 1 O)<|ah (atX hne4 hdx 2 O)<|ah (atX hne5 hdx 3 O)<|ah (atX hne1 hdx 4 O)<|ah (atX hne2 hdx 5 O)<|bI)<|ih (dkS [0,1,2,3,4,5] hdk O O) h λu u1 u2 lo g7 h=>bL (bD (bD (bD (bD (ah (atX hne1 hdx 4 O)<|ah (atX hne2 hdx 5 O)<|bI)<|bp hne5 hdx 3 O O)<|bp hne4 hdx 2 O O)<|bp hne3 hdx 1 O O)<|bp hne0 hdx 0 O O) ?_
  refine wk 8 λh=>?_
  refine am<|clZ O<|fj (ah (atX hne0 hdx 0 O)<|ah (atX hne3 hdx 1 O)<|ah (atX hne4 hdx 2 O)<|ah (atX hne5 hdx 3 O)<|ah (atX hne1 hdx 4 O)<|ah (atX hne2 hdx 5 O)<|bI)<|ih (dkS [0,1,2,3,4,5] hdk O O) h λu3 u4 u5 hi g8 h=>bL (bD (bD (bD (bD (ah (atX hne1 hdx 4 O)<|ah (atX hne2 hdx 5 O)<|bI)<|bp hne5 hdx 3 O O)<|bp hne4 hdx 2 O O)<|bp hne3 hdx 1 O O)<|bp hne0 hdx 0 O O) ?_
  refine wk 14 λh hi1 h=>?_
  refine am<|clZ O<|fj (ah (atX hne0 hdx 0 O)<|ah (atX hne3 hdx 1 O)<|ah (atX hne4 hdx 2 O)<|ah (atX hne1 hdx 4 O)<|ah (atX hne2 hdx 5 O)<|ah (atX hne5 hdx 3 O)<|bI)<|fO (dkS [0,1,2,4,5,3] hdk O O) h λu6 u7 r9 g9 h=>bL (bD (bD (bD (ah (atX hne1 hdx 4 O)<|ah (atX hne2 hdx 5 O)<|ah (atX hne5 hdx 3 O)<|bI)<|bp hne4 hdx 2 O O)<|bp hne3 hdx 1 O O)<|bp hne0 hdx 0 O O)<|asZ (iZ r9) O<|nZ<|qZ<|Vc.drawn' mixed rg (λ_=>iV) krZ ?_
  refine wk 4 λh=>?_
  refine dL (E:=([(rg,9)],[])) O O zSm (cfa zAp eCf) (cG (aZ 9 O) yU dZ Cv O O (v:=.agg [iZ c,iZ a,iZ b]) O ?_)
  refine wk 1 λh=>?_
  refine dL (E:=([],[(q5,k5)])) O O zSm eCf (oE (v:=r9) (atX hne5 hdx 3 O) yM AW O O O (bp hne5 hdx 3 O O) ?_)
  refine wk 6 λh=>?_
  exact uZ<|gv1 (hfr _ O)<|hQ _ _ _ _ _ h
 refine bZ<|jnZ h (λy=>aw [(0,.ptr q0 k0 g0 0 0),(1,iZ c),(2,iZ a),(3,iZ b),(22,.bool y)]) (λy=>stL (stX S [(q0,k0,.arr 5 [.agg [.sl 1 q1 k1 g1 0 order.length,.sl 1 q2 k2 g2 0 place.length,.sl 3 q3 k3 g3 0 nodes.length,.map q4 k4 g4,.map q5 k5 g5]],g0),(q3,k3,.arr 3 (List.map aG nodes),g3),(q4,k4,aC iZ zKt unique,g4),(q5,k5,aC iZ zKt memo,g5),(q1,k1,.arr 1 (List.map iZ order),g1),(q2,k2,.arr 1 (List.map iZ place),g2)]) rg []) (λx h=>?_) (λ_ h=>?_)
 ·refine cZ h O (λhb1 h=>?_) (λhb1 h=>?_)
  ·refine wk 5 λh=>?_
   exact uZ<|gv1 (hfr _ O)<|hQ _ _ _ _ _ h
  refine wk 6 λh=>?_
  refine cZ h O (λhb2 h=>?_) (λhb2 h=>?_)
  ·refine wk 5 λh=>?_
   exact uZ<|gv1 (hfr _ O)<|hQ _ _ _ _ _ h
  refine wk 5 λh=>?_
  refine gtZ h O O (λhb3 h=>?_) (λhb3 h=>?_)
  ·refine wk 6 λh=>?_
   refine cZ h O (λhb4 h=>?_) (λhb4 h=>?_)
   ·refine wk 5 λh=>?_
    exact uZ<|gv1 (hfr _ O)<|hQ _ _ _ _ _ h
   exact wk 9999 trivial
  refine wk 4 λh=>?_
  refine cFZ O O ?_
  exact wk 9999 trivial
 exact wk 9999 trivial
theorem gy {a:Int} {order:List Int} {place:List Int} {nodes:List GDNode} {unique:GMap Int} {memo:GMap Int} {q0 k0 g0 q1 k1 g1 q2 k2 g2 q3 k3 g3 q4 k4 g4 q5 k5 g5:Nat} (hdk:DK [(q0,k0),(q3,k3),(q4,k4),(q5,k5),(q1,k1),(q2,k2)]) {Q:List GDNode->GMap Int->GMap Int->Int->Prop} (h:dw a order place nodes unique memo Q) (hQ:∀r1 r2 r3 r4,∀h3,Q r1 r2 r3 r4->R (iZ r4) (stX S [(q0,k0,.arr 5 [.agg [.sl 1 q1 k1 g1 0 order.length,.sl 1 q2 k2 g2 0 place.length,.sl 3 q3 k3 h3 0 r1.length,.map q4 k4 g4,.map q5 k5 g5]],g0),(q3,k3,.arr 3 (List.map aG r1),h3),(q4,k4,aC iZ zKt r2,g4),(q5,k5,aC iZ zKt r3,g5),(q1,k1,.arr 1 (List.map iZ order),g1),(q2,k2,.arr 1 (List.map iZ place),g2)])) :
  Ctr prog 114 [.ptr q0 k0 g0 0 0,iZ a] (stX S [(q0,k0,.arr 5 [.agg [.sl 1 q1 k1 g1 0 order.length,.sl 1 q2 k2 g2 0 place.length,.sl 3 q3 k3 g3 0 nodes.length,.map q4 k4 g4,.map q5 k5 g5]],g0),(q3,k3,.arr 3 (List.map aG nodes),g3),(q4,k4,aC iZ zKt unique,g4),(q5,k5,aC iZ zKt memo,g5),(q1,k1,.arr 1 (List.map iZ order),g1),(q2,k2,.arr 1 (List.map iZ place),g2)]) R:=by
 refine au func114 rfl ntmps114 results114 krZ (λrg hrg=>?_)
 have hdx:DX [(q0,k0,.arr 5 [.agg [.sl 1 q1 k1 g1 0 order.length,.sl 1 q2 k2 g2 0 place.length,.sl 3 q3 k3 g3 0 nodes.length,.map q4 k4 g4,.map q5 k5 g5]],g0),(q3,k3,.arr 3 (List.map aG nodes),g3),(q4,k4,aC iZ zKt unique,g4),(q5,k5,aC iZ zKt memo,g5),(q1,k1,.arr 1 (List.map iZ order),g1),(q2,k2,.arr 1 (List.map iZ place),g2)]:=hdk
 have hfr:=λX' e=>bF (S:=S) (rg:=rg) (X:=[(q0,k0,.arr 5 [.agg [.sl 1 q1 k1 g1 0 order.length,.sl 1 q2 k2 g2 0 place.length,.sl 3 q3 k3 g3 0 nodes.length,.map q4 k4 g4,.map q5 k5 g5]],g0),(q3,k3,.arr 3 (List.map aG nodes),g3),(q4,k4,aC iZ zKt unique,g4),(q5,k5,aC iZ zKt memo,g5),(q1,k1,.arr 1 (List.map iZ order),g1),(q2,k2,.arr 1 (List.map iZ place),g2)]) (X':=X') e hrg
 have hne0:=ak hdx hrg 0 rfl
 have hne3:=ak hdx hrg 1 rfl
 have hne4:=ak hdx hrg 2 rfl
 have hne5:=ak hdx hrg 3 rfl
 have hne1:=ak hdx hrg 4 rfl
 have hne2:=ak hdx hrg 5 rfl
 refine wk 8 λh=>?_
 obtain⟨_,h⟩:=h
 exact am<|clZ O<|fj (ah (atX hne0 hdx 0 O)<|ah (atX hne3 hdx 1 O)<|ah (atX hne4 hdx 2 O)<|ah (atX hne5 hdx 3 O)<|ah (atX hne1 hdx 4 O)<|ah (atX hne2 hdx 5 O)<|bI)<|bN (dkS [0,1,2,3,4,5] hdk O O) h λu u1 u2 r g6 h=>bL (bD (bD (bD (bD (ah (atX hne1 hdx 4 O)<|ah (atX hne2 hdx 5 O)<|bI)<|bp hne5 hdx 3 O O)<|bp hne4 hdx 2 O O)<|bp hne3 hdx 1 O O)<|bp hne0 hdx 0 O O)<|asZ (iZ r) O<|fI<|gv1 (hfr _ O)<|hQ _ _ _ _ _ h
theorem jn {fu:Nat}:∀ {r:Int} {u:Int} {u1:GMap Bool} {order:List Int} {place:List Int} {nodes:List GDNode} {unique:GMap Int} {memo:GMap Int} {q0 k0 g0 q1 k1 g1 q2 k2 g2 q3 k3 g3 q4 k4 g4 q5 k5 g5 q6 k6 g6 q7 k7 g7 q8 k8 g8 q9 k9 g9 q10 k10 g10:Nat} (hdk:DK [(q4,k4),(q0,k0),(q1,k1),(q2,k2),(q3,k3),(q5,k5),(q6,k6),(q7,k7),(q8,k8),(q9,k9),(q10,k10)]) {Q:GMap Bool->Prop} {S:St} {R:AV->St->Prop} (h:aR fu r u u1 order place nodes unique memo Q) (hQ:∀r1,Q r1->R (.tuple []) (stX S [(q4,k4,aC AV.bool (.one .i64) r1,g4),(q0,k0,.arr 1 [.map q4 k4 g4],g0),(q1,k1,.arr 1 [.int .i64 u],g1),(q2,k2,.arr 1 [.fn (.func 120) [] [.ptr q0 k0 g0 0 0,.ptr q1 k1 g1 0 0,.ptr q2 k2 g2 0 0,.ptr q3 k3 g3 0 0]],g2),(q3,k3,.arr 1 [.ptr q5 k5 g5 0 0],g3),(q5,k5,.arr 5 [.agg [.sl 1 q6 k6 g6 0 order.length,.sl 1 q7 k7 g7 0 place.length,.sl 3 q8 k8 g8 0 nodes.length,.map q9 k9 g9,.map q10 k10 g10]],g5),(q6,k6,.arr 1 (List.map iZ order),g6),(q7,k7,.arr 1 (List.map iZ place),g7),(q8,k8,.arr 3 (List.map aG nodes),g8),(q9,k9,aC iZ zKt unique,g9),(q10,k10,aC iZ zKt memo,g10)])),
  Ctr prog 120 [iZ r,.ptr q0 k0 g0 0 0,.ptr q1 k1 g1 0 0,.ptr q2 k2 g2 0 0,.ptr q3 k3 g3 0 0] (stX S [(q4,k4,aC AV.bool (.one .i64) u1,g4),(q0,k0,.arr 1 [.map q4 k4 g4],g0),(q1,k1,.arr 1 [.int .i64 u],g1),(q2,k2,.arr 1 [.fn (.func 120) [] [.ptr q0 k0 g0 0 0,.ptr q1 k1 g1 0 0,.ptr q2 k2 g2 0 0,.ptr q3 k3 g3 0 0]],g2),(q3,k3,.arr 1 [.ptr q5 k5 g5 0 0],g3),(q5,k5,.arr 5 [.agg [.sl 1 q6 k6 g6 0 order.length,.sl 1 q7 k7 g7 0 place.length,.sl 3 q8 k8 g8 0 nodes.length,.map q9 k9 g9,.map q10 k10 g10]],g5),(q6,k6,.arr 1 (List.map iZ order),g6),(q7,k7,.arr 1 (List.map iZ place),g7),(q8,k8,.arr 3 (List.map aG nodes),g8),(q9,k9,aC iZ zKt unique,g9),(q10,k10,aC iZ zKt memo,g10)]) R:=by
 induction fu with
 | zero=>
  intro r u u1 order place nodes unique memo q0 k0 g0 q1 k1 g1 q2 k2 g2 q3 k3 g3 q4 k4 g4 q5 k5 g5 q6 k6 g6 q7 k7 g7 q8 k8 g8 q9 k9 g9 q10 k10 g10 hdk Q S R h hQ
  exact False.elim h
 | succ fu ih=>
 intro r u u1 order place nodes unique memo q0 k0 g0 q1 k1 g1 q2 k2 g2 q3 k3 g3 q4 k4 g4 q5 k5 g5 q6 k6 g6 q7 k7 g7 q8 k8 g8 q9 k9 g9 q10 k10 g10 hdk Q S R h hQ
 rw[aR] at h
 refine au func120 rfl ntmps120 results120 krZ (λrg hrg=>?_)
 have hdx:DX [(q4,k4,aC AV.bool (.one .i64) u1,g4),(q0,k0,.arr 1 [.map q4 k4 g4],g0),(q1,k1,.arr 1 [.int .i64 u],g1),(q2,k2,.arr 1 [.fn (.func 120) [] [.ptr q0 k0 g0 0 0,.ptr q1 k1 g1 0 0,.ptr q2 k2 g2 0 0,.ptr q3 k3 g3 0 0]],g2),(q3,k3,.arr 1 [.ptr q5 k5 g5 0 0],g3),(q5,k5,.arr 5 [.agg [.sl 1 q6 k6 g6 0 order.length,.sl 1 q7 k7 g7 0 place.length,.sl 3 q8 k8 g8 0 nodes.length,.map q9 k9 g9,.map q10 k10 g10]],g5),(q6,k6,.arr 1 (List.map iZ order),g6),(q7,k7,.arr 1 (List.map iZ place),g7),(q8,k8,.arr 3 (List.map aG nodes),g8),(q9,k9,aC iZ zKt unique,g9),(q10,k10,aC iZ zKt memo,g10)]:=hdk
 have hfr:=λX' e=>bF (S:=S) (rg:=rg) (X:=[(q4,k4,aC AV.bool (.one .i64) u1,g4),(q0,k0,.arr 1 [.map q4 k4 g4],g0),(q1,k1,.arr 1 [.int .i64 u],g1),(q2,k2,.arr 1 [.fn (.func 120) [] [.ptr q0 k0 g0 0 0,.ptr q1 k1 g1 0 0,.ptr q2 k2 g2 0 0,.ptr q3 k3 g3 0 0]],g2),(q3,k3,.arr 1 [.ptr q5 k5 g5 0 0],g3),(q5,k5,.arr 5 [.agg [.sl 1 q6 k6 g6 0 order.length,.sl 1 q7 k7 g7 0 place.length,.sl 3 q8 k8 g8 0 nodes.length,.map q9 k9 g9,.map q10 k10 g10]],g5),(q6,k6,.arr 1 (List.map iZ order),g6),(q7,k7,.arr 1 (List.map iZ place),g7),(q8,k8,.arr 3 (List.map aG nodes),g8),(q9,k9,aC iZ zKt unique,g9),(q10,k10,aC iZ zKt memo,g10)]) (X':=X') e hrg
 have hne4:=ak hdx hrg 0 rfl
 have hne0:=ak hdx hrg 1 rfl
 have hne1:=ak hdx hrg 2 rfl
 have hne2:=ak hdx hrg 3 rfl
 have hne3:=ak hdx hrg 4 rfl
 have hne5:=ak hdx hrg 5 rfl
 have hne6:=ak hdx hrg 6 rfl
 have hne7:=ak hdx hrg 7 rfl
 have hne8:=ak hdx hrg 8 rfl
 have hne9:=ak hdx hrg 9 rfl
 have hne10:=ak hdx hrg 10 rfl
 refine wk 6 λh=>?_
 refine gfZ h O O (λhb h=>?_) (λhb h=>?_)
 ·refine wk 4 λh=>?_
  refine am<|rT (atX hne4 hdx 0 O) uc sd ok4 (z:=false) pt O O ?_
  refine wk 2 λh=>?_
  refine gfZ h O O (λhb1 h=>?_) (λhb1 h=>?_)
  ·refine wk 2 λh=>?_
   refine am<|Ge (atX hne4 hdx 0 O) uc O ?_
   refine wk 6 λh=>?_
   refine cZ h O (λhb2 h=>?_) (λhb2 h=>?_)
   ·exact uZ<|gv0 (hfr _ O)<|hQ _ h
   refine wk 5 λh=>?_
   refine am<|oE (v:=true) (atX hne4 hdx 0 O) uc sd O O O (bp hne4 hdx 0 O O)<|nZ<|qZ<|tkZ h (λhg h=>tkZ h (λhi h=>?_))
   obtain⟨u2,hc,h⟩:=h
   refine Vc.drawn' mixed rg (gd [(10,wc (λ_=>.tuple []) [(q0,k0),(q1,k1),(q2,k2),(q3,k3),(q5,k5),(q6,k6),(q7,k7),(q8,k8),(q9,k9),(q10,k10)] [(q4,k4)] (λ_=>[(q4,k4,aC AV.bool (.one .i64) u2,g4)]))]) krZ ?_
   refine wk 6 λh=>?_
   refine dP O O<|jY O O hg<|dP O O<|aS xD pE dZ O O hi ?_
   refine wk 2 λh=>?_
   refine dCE (vs:=[iZ ((at' nodes<|r-2).E),.ptr q0 k0 g0 0 0,.ptr q1 k1 g1 0 0,.ptr q2 k2 g2 0 0,.ptr q3 k3 g3 0 0]) (V:=λ_=>.tuple []) (rd:=[(q0,k0),(q1,k1),(q2,k2),(q3,k3),(q5,k5),(q6,k6),(q7,k7),(q8,k8),(q9,k9),(q10,k10)]) (wk:=[(q4,k4)]) (wr:=λ_=>[(q4,k4,aC AV.bool (.one .i64) u2,g4)]) rfl (vZ<|vZ<|vZ<|vZ<|vZ<|vn) rfl eCf zSm (λ_=>rfl) (λS' hA hB=>fj (ah (ag hB 0 rfl<|atX hne4 hdx 0 rfl)<|ah (ag hA 0 rfl<|atX hne0 hdx 1 rfl)<|ah (ag hA 1 rfl<|atX hne1 hdx 2 rfl)<|ah (ag hA 2 rfl<|atX hne2 hdx 3 rfl)<|ah (ag hA 3 rfl<|atX hne3 hdx 4 rfl)<|ah (ag hA 4 rfl<|atX hne5 hdx 5 rfl)<|ah (ag hA 5 rfl<|atX hne6 hdx 6 rfl)<|ah (ag hA 6 rfl<|atX hne7 hdx 7 rfl)<|ah (ag hA 7 rfl<|atX hne8 hdx 8 rfl)<|ah (ag hA 8 rfl<|atX hne9 hdx 9 rfl)<|ah (ag hA 9 rfl<|atX hne10 hdx 10 rfl)<|bI)<|ih (dkS [0,1,2,3,4,5,6,7,8,9,10] hdk O O) hc (λ_ he=>by obtain rfl:=he;exact⟨λi=>([]:List Nat).getD i 0,rfl,uk (ah (ag hA 0 rfl<|atX hne0 hdx 1 rfl)<|ah (ag hA 1 rfl<|atX hne1 hdx 2 rfl)<|ah (ag hA 2 rfl<|atX hne2 hdx 3 rfl)<|ah (ag hA 3 rfl<|atX hne3 hdx 4 rfl)<|ah (ag hA 4 rfl<|atX hne5 hdx 5 rfl)<|ah (ag hA 5 rfl<|atX hne6 hdx 6 rfl)<|ah (ag hA 6 rfl<|atX hne7 hdx 7 rfl)<|ah (ag hA 7 rfl<|atX hne8 hdx 8 rfl)<|ah (ag hA 8 rfl<|atX hne9 hdx 9 rfl)<|ah (ag hA 9 rfl<|atX hne10 hdx 10 rfl)<|bI)⟩)) (λ_=>?_)
   refine nc (ur (AB)<|bp hne4 hdx 0 O O)<|dN<|tkZ h (λhg1 h=>tkZ h (λhi1 h=>?_))
   obtain⟨u3,hc1,h⟩:=h
   refine Vc.drawn' mixed rg (gd [(10,wc (λ_=>.tuple []) [(q0,k0),(q1,k1),(q2,k2),(q3,k3),(q5,k5),(q6,k6),(q7,k7),(q8,k8),(q9,k9),(q10,k10)] [(q4,k4)] (λ_=>[(q4,k4,aC AV.bool (.one .i64) u3,g4)]))]) krZ ?_
   refine wk 6 λh=>?_
   refine dP O O<|jY O O hg1<|dP O O<|aS xD pE dZ O O hi1 ?_
   refine wk 2 λh=>?_
   refine dCE (vs:=[iZ ((at' nodes<|r-2).I),.ptr q0 k0 g0 0 0,.ptr q1 k1 g1 0 0,.ptr q2 k2 g2 0 0,.ptr q3 k3 g3 0 0]) (V:=λ_=>.tuple []) (rd:=[(q0,k0),(q1,k1),(q2,k2),(q3,k3),(q5,k5),(q6,k6),(q7,k7),(q8,k8),(q9,k9),(q10,k10)]) (wk:=[(q4,k4)]) (wr:=λ_=>[(q4,k4,aC AV.bool (.one .i64) u3,g4)]) rfl (vZ<|vZ<|vZ<|vZ<|vZ<|vn) rfl eCf zSm (λ_=>rfl) (λS' hA hB=>fj (ah (ag hB 0 rfl<|atX hne4 hdx 0 rfl)<|ah (ag hA 0 rfl<|atX hne0 hdx 1 rfl)<|ah (ag hA 1 rfl<|atX hne1 hdx 2 rfl)<|ah (ag hA 2 rfl<|atX hne2 hdx 3 rfl)<|ah (ag hA 3 rfl<|atX hne3 hdx 4 rfl)<|ah (ag hA 4 rfl<|atX hne5 hdx 5 rfl)<|ah (ag hA 5 rfl<|atX hne6 hdx 6 rfl)<|ah (ag hA 6 rfl<|atX hne7 hdx 7 rfl)<|ah (ag hA 7 rfl<|atX hne8 hdx 8 rfl)<|ah (ag hA 8 rfl<|atX hne9 hdx 9 rfl)<|ah (ag hA 9 rfl<|atX hne10 hdx 10 rfl)<|bI)<|ih (dkS [0,1,2,3,4,5,6,7,8,9,10] hdk O O) hc1 (λ_ he=>by obtain rfl:=he;exact⟨λi=>([]:List Nat).getD i 0,rfl,uk (ah (ag hA 0 rfl<|atX hne0 hdx 1 rfl)<|ah (ag hA 1 rfl<|atX hne1 hdx 2 rfl)<|ah (ag hA 2 rfl<|atX hne2 hdx 3 rfl)<|ah (ag hA 3 rfl<|atX hne3 hdx 4 rfl)<|ah (ag hA 4 rfl<|atX hne5 hdx 5 rfl)<|ah (ag hA 5 rfl<|atX hne6 hdx 6 rfl)<|ah (ag hA 6 rfl<|atX hne7 hdx 7 rfl)<|ah (ag hA 7 rfl<|atX hne8 hdx 8 rfl)<|ah (ag hA 8 rfl<|atX hne9 hdx 9 rfl)<|ah (ag hA 9 rfl<|atX hne10 hdx 10 rfl)<|bI)⟩)) (λ_=>?_)
   exact nc (ur (AB)<|bp hne4 hdx 0 O O)<|dN<|gv0 (hfr _ O)<|hQ _ h
  refine wk 5 λh=>?_
  exact cTZ O O<|uZ<|gv0 (hfr _ O)<|hQ _ h
 refine wk 10 λh=>?_
 exact cTZ O O<|uZ<|gv0 (hfr _ O)<|hQ _ h
theorem km {root:Int} {most:Int} {order:List Int} {place:List Int} {nodes:List GDNode} {unique:GMap Int} {memo:GMap Int} {q0 k0 g0 q1 k1 g1 q2 k2 g2 q3 k3 g3 q4 k4 g4 q5 k5 g5:Nat} (hdk:DK [(q0,k0),(q1,k1),(q2,k2),(q3,k3),(q4,k4),(q5,k5)]) {Q:Bool->Prop} (h:bA root most order place nodes unique memo Q) (hQ:∀r1,Q r1->R (AV.bool r1) (stX S [(q0,k0,.arr 5 [.agg [.sl 1 q1 k1 g1 0 order.length,.sl 1 q2 k2 g2 0 place.length,.sl 3 q3 k3 g3 0 nodes.length,.map q4 k4 g4,.map q5 k5 g5]],g0),(q1,k1,.arr 1 (List.map iZ order),g1),(q2,k2,.arr 1 (List.map iZ place),g2),(q3,k3,.arr 3 (List.map aG nodes),g3),(q4,k4,aC iZ zKt unique,g4),(q5,k5,aC iZ zKt memo,g5)])) :
  Ctr prog 77 [.ptr q0 k0 g0 0 0,iZ root,iZ most] (stX S [(q0,k0,.arr 5 [.agg [.sl 1 q1 k1 g1 0 order.length,.sl 1 q2 k2 g2 0 place.length,.sl 3 q3 k3 g3 0 nodes.length,.map q4 k4 g4,.map q5 k5 g5]],g0),(q1,k1,.arr 1 (List.map iZ order),g1),(q2,k2,.arr 1 (List.map iZ place),g2),(q3,k3,.arr 3 (List.map aG nodes),g3),(q4,k4,aC iZ zKt unique,g4),(q5,k5,aC iZ zKt memo,g5)]) R:=by
 refine au func77 rfl ntmps77 results77 krZ (λrg hrg=>?_)
 have hdx:DX [(q0,k0,.arr 5 [.agg [.sl 1 q1 k1 g1 0 order.length,.sl 1 q2 k2 g2 0 place.length,.sl 3 q3 k3 g3 0 nodes.length,.map q4 k4 g4,.map q5 k5 g5]],g0),(q1,k1,.arr 1 (List.map iZ order),g1),(q2,k2,.arr 1 (List.map iZ place),g2),(q3,k3,.arr 3 (List.map aG nodes),g3),(q4,k4,aC iZ zKt unique,g4),(q5,k5,aC iZ zKt memo,g5)]:=hdk
 have hfr:=λX' e=>bF (S:=S) (rg:=rg) (X:=[(q0,k0,.arr 5 [.agg [.sl 1 q1 k1 g1 0 order.length,.sl 1 q2 k2 g2 0 place.length,.sl 3 q3 k3 g3 0 nodes.length,.map q4 k4 g4,.map q5 k5 g5]],g0),(q1,k1,.arr 1 (List.map iZ order),g1),(q2,k2,.arr 1 (List.map iZ place),g2),(q3,k3,.arr 3 (List.map aG nodes),g3),(q4,k4,aC iZ zKt unique,g4),(q5,k5,aC iZ zKt memo,g5)]) (X':=X') e hrg
 have hne0:=ak hdx hrg 0 rfl
 have hne1:=ak hdx hrg 1 rfl
 have hne2:=ak hdx hrg 2 rfl
 have hne3:=ak hdx hrg 3 rfl
 have hne4:=ak hdx hrg 4 rfl
 have hne5:=ak hdx hrg 5 rfl
 refine wk 8 λg6 g7 h=>?_
 refine wZ rg<|mR (enc:=AV.bool) uc sd trivial (λg8=>?_)
 refine wk 9 λg9 g10 h=>?_
 refine wZ rg<|u' (vs:=[]) (us:=[.ptr rg 7 g9 0 0,.ptr rg 5 g7 0 0,.ptr rg 8 g10 0 0,.ptr rg 3 g6 0 0]) O O ?_
 refine wk 6 λh=>?_
 obtain⟨_,h⟩:=h
 refine am<|clZ O<|fj (ah (aZ 9 O)<|ah (aZ 7 O)<|ah (aZ 5 O)<|ah (aZ 8 O)<|ah (aZ 3 O)<|ah (atX hne0 hdx 0 O)<|ah (atX hne1 hdx 1 O)<|ah (atX hne2 hdx 2 O)<|ah (atX hne3 hdx 3 O)<|ah (atX hne4 hdx 4 O)<|ah (atX hne5 hdx 5 O)<|bI)<|jn (qt (bg (gU O)<|bg (gU O)<|bg (gU O)<|bg (gU O)<|bg (cc hne0)<|bg (cc hne1)<|bg (cc hne2)<|bg (cc hne3)<|bg (cc hne4)<|bg (cc hne5)<|qi)<|qt (bg (gU O)<|bg (gU O)<|bg (gU O)<|bg (cc hne0)<|bg (cc hne1)<|bg (cc hne2)<|bg (cc hne3)<|bg (cc hne4)<|bg (cc hne5)<|qi)<|qt (bg (gU O)<|bg (gU O)<|bg (cc hne0)<|bg (cc hne1)<|bg (cc hne2)<|bg (cc hne3)<|bg (cc hne4)<|bg (cc hne5)<|qi)<|qt (bg (gU O)<|bg (cc hne0)<|bg (cc hne1)<|bg (cc hne2)<|bg (cc hne3)<|bg (cc hne4)<|bg (cc hne5)<|qi)<|qt (bg (cc hne0)<|bg (cc hne1)<|bg (cc hne2)<|bg (cc hne3)<|bg (cc hne4)<|bg (cc hne5)<|qi)<|dkS [0,1,2,3,4,5] hdk O O) h λu h=>bL (bD (ah (aZ 7 O)<|ah (aZ 5 O)<|ah (aZ 8 O)<|ah (aZ 3 O)<|ah (atX hne0 hdx 0 O)<|ah (atX hne1 hdx 1 O)<|ah (atX hne2 hdx 2 O)<|ah (atX hne3 hdx 3 O)<|ah (atX hne4 hdx 4 O)<|ah (atX hne5 hdx 5 O)<|bI) bY) ?_
 refine wk 4 λh=>?_
 refine am<|Ge (aZ 9 O) uc O ?_
 refine wk 4 λh=>?_
 exact uZ<|gv1 (hfr _ O)<|hQ _ h
theorem iJ {fu:Nat}:∀ {r:Int} {G:Int} {u:GMap Int} {T:List Int} {N:List GDNode} {order:List Int} {place:List Int} {nodes:List GDNode} {unique:GMap Int} {memo:GMap Int} {q0 k0 g0 q1 k1 g1 q2 k2 g2 q3 k3 g3 q4 k4 g4 q5 k5 g5 q6 k6 g6 q7 k7 g7 q8 k8 g8 q9 k9 g9 q10 k10 g10 q11 k11 g11 q12 k12 g12:Nat} (hdk:DK [(q3,k3),(q4,k4),(q7,k7),(q0,k0),(q1,k1),(q2,k2),(q5,k5),(q6,k6),(q8,k8),(q9,k9),(q10,k10),(q11,k11),(q12,k12)]) {Q:GMap Int->List GDNode->Int->Prop} {S:St} {R:AV->St->Prop} (h:aT fu r G u T N order place nodes unique memo Q) (hQ:∀r1 r2 r3,∀h7,Q r1 r2 r3->R (iZ r3) (stX S [(q3,k3,.arr 3 [.agg [.sl 1 q6 k6 g6 0 T.length,.sl 3 q7 k7 h7 0 r2.length,.int .i64 G]],g3),(q4,k4,aC iZ (.one .i64) r1,g4),(q7,k7,.arr 3 (List.map aG r2),h7),(q0,k0,.arr 1 [.map q4 k4 g4],g0),(q1,k1,.arr 1 [.ptr q5 k5 g5 0 0],g1),(q2,k2,.arr 1 [.fn (.func 121) [] [.ptr q0 k0 g0 0 0,.ptr q1 k1 g1 0 0,.ptr q2 k2 g2 0 0,.ptr q3 k3 g3 0 0]],g2),(q5,k5,.arr 5 [.agg [.sl 1 q8 k8 g8 0 order.length,.sl 1 q9 k9 g9 0 place.length,.sl 3 q10 k10 g10 0 nodes.length,.map q11 k11 g11,.map q12 k12 g12]],g5),(q6,k6,.arr 1 (List.map iZ T),g6),(q8,k8,.arr 1 (List.map iZ order),g8),(q9,k9,.arr 1 (List.map iZ place),g9),(q10,k10,.arr 3 (List.map aG nodes),g10),(q11,k11,aC iZ zKt unique,g11),(q12,k12,aC iZ zKt memo,g12)])),
  Ctr prog 121 [iZ r,.ptr q0 k0 g0 0 0,.ptr q1 k1 g1 0 0,.ptr q2 k2 g2 0 0,.ptr q3 k3 g3 0 0] (stX S [(q3,k3,.arr 3 [.agg [.sl 1 q6 k6 g6 0 T.length,.sl 3 q7 k7 g7 0 N.length,.int .i64 G]],g3),(q4,k4,aC iZ (.one .i64) u,g4),(q7,k7,.arr 3 (List.map aG N),g7),(q0,k0,.arr 1 [.map q4 k4 g4],g0),(q1,k1,.arr 1 [.ptr q5 k5 g5 0 0],g1),(q2,k2,.arr 1 [.fn (.func 121) [] [.ptr q0 k0 g0 0 0,.ptr q1 k1 g1 0 0,.ptr q2 k2 g2 0 0,.ptr q3 k3 g3 0 0]],g2),(q5,k5,.arr 5 [.agg [.sl 1 q8 k8 g8 0 order.length,.sl 1 q9 k9 g9 0 place.length,.sl 3 q10 k10 g10 0 nodes.length,.map q11 k11 g11,.map q12 k12 g12]],g5),(q6,k6,.arr 1 (List.map iZ T),g6),(q8,k8,.arr 1 (List.map iZ order),g8),(q9,k9,.arr 1 (List.map iZ place),g9),(q10,k10,.arr 3 (List.map aG nodes),g10),(q11,k11,aC iZ zKt unique,g11),(q12,k12,aC iZ zKt memo,g12)]) R:=by
 induction fu with
 | zero=>
  intro r G u T N order place nodes unique memo q0 k0 g0 q1 k1 g1 q2 k2 g2 q3 k3 g3 q4 k4 g4 q5 k5 g5 q6 k6 g6 q7 k7 g7 q8 k8 g8 q9 k9 g9 q10 k10 g10 q11 k11 g11 q12 k12 g12 hdk Q S R h hQ
  exact False.elim h
 | succ fu ih=>
 intro r G u T N order place nodes unique memo q0 k0 g0 q1 k1 g1 q2 k2 g2 q3 k3 g3 q4 k4 g4 q5 k5 g5 q6 k6 g6 q7 k7 g7 q8 k8 g8 q9 k9 g9 q10 k10 g10 q11 k11 g11 q12 k12 g12 hdk Q S R h hQ
 rw[aT] at h
 refine au func121 rfl ntmps121 results121 krZ (λrg hrg=>?_)
 have hdx:DX [(q3,k3,.arr 3 [.agg [.sl 1 q6 k6 g6 0 T.length,.sl 3 q7 k7 g7 0 N.length,.int .i64 G]],g3),(q4,k4,aC iZ (.one .i64) u,g4),(q7,k7,.arr 3 (List.map aG N),g7),(q0,k0,.arr 1 [.map q4 k4 g4],g0),(q1,k1,.arr 1 [.ptr q5 k5 g5 0 0],g1),(q2,k2,.arr 1 [.fn (.func 121) [] [.ptr q0 k0 g0 0 0,.ptr q1 k1 g1 0 0,.ptr q2 k2 g2 0 0,.ptr q3 k3 g3 0 0]],g2),(q5,k5,.arr 5 [.agg [.sl 1 q8 k8 g8 0 order.length,.sl 1 q9 k9 g9 0 place.length,.sl 3 q10 k10 g10 0 nodes.length,.map q11 k11 g11,.map q12 k12 g12]],g5),(q6,k6,.arr 1 (List.map iZ T),g6),(q8,k8,.arr 1 (List.map iZ order),g8),(q9,k9,.arr 1 (List.map iZ place),g9),(q10,k10,.arr 3 (List.map aG nodes),g10),(q11,k11,aC iZ zKt unique,g11),(q12,k12,aC iZ zKt memo,g12)]:=hdk
 have hfr:=λX' e=>bF (S:=S) (rg:=rg) (X:=[(q3,k3,.arr 3 [.agg [.sl 1 q6 k6 g6 0 T.length,.sl 3 q7 k7 g7 0 N.length,.int .i64 G]],g3),(q4,k4,aC iZ (.one .i64) u,g4),(q7,k7,.arr 3 (List.map aG N),g7),(q0,k0,.arr 1 [.map q4 k4 g4],g0),(q1,k1,.arr 1 [.ptr q5 k5 g5 0 0],g1),(q2,k2,.arr 1 [.fn (.func 121) [] [.ptr q0 k0 g0 0 0,.ptr q1 k1 g1 0 0,.ptr q2 k2 g2 0 0,.ptr q3 k3 g3 0 0]],g2),(q5,k5,.arr 5 [.agg [.sl 1 q8 k8 g8 0 order.length,.sl 1 q9 k9 g9 0 place.length,.sl 3 q10 k10 g10 0 nodes.length,.map q11 k11 g11,.map q12 k12 g12]],g5),(q6,k6,.arr 1 (List.map iZ T),g6),(q8,k8,.arr 1 (List.map iZ order),g8),(q9,k9,.arr 1 (List.map iZ place),g9),(q10,k10,.arr 3 (List.map aG nodes),g10),(q11,k11,aC iZ zKt unique,g11),(q12,k12,aC iZ zKt memo,g12)]) (X':=X') e hrg
 have hne3:=ak hdx hrg 0 rfl
 have hne4:=ak hdx hrg 1 rfl
 have hne7:=ak hdx hrg 2 rfl
 have hne0:=ak hdx hrg 3 rfl
 have hne1:=ak hdx hrg 4 rfl
 have hne2:=ak hdx hrg 5 rfl
 have hne5:=ak hdx hrg 6 rfl
 have hne6:=ak hdx hrg 7 rfl
 have hne8:=ak hdx hrg 8 rfl
 have hne9:=ak hdx hrg 9 rfl
 have hne10:=ak hdx hrg 10 rfl
 have hne11:=ak hdx hrg 11 rfl
 have hne12:=ak hdx hrg 12 rfl
 refine wk 9 λh=>?_
 refine am<|pf (atX hne4 hdx 1 O) te sd ok3 (z:=0) gC O O ?_
 refine wk 10 λh=>?_
 refine cZ h O (λhb h=>?_) (λhb h=>?_)
 ·refine wk 5 λh=>?_
  exact uZ<|gv1 (hfr _ O)<|hQ _ _ _ _ h
 refine wk 19 λg13 h hg h hi h=>?_
 refine am<|clZ O<|fj (ah (atX hne3 hdx 0 O)<|ah (atX hne4 hdx 1 O)<|ah (atX hne7 hdx 2 O)<|ah (atX hne0 hdx 3 O)<|ah (atX hne1 hdx 4 O)<|ah (atX hne2 hdx 5 O)<|ah (atX hne5 hdx 6 O)<|ah (atX hne6 hdx 7 O)<|ah (atX hne8 hdx 8 O)<|ah (atX hne9 hdx 9 O)<|ah (atX hne10 hdx 10 O)<|ah (atX hne11 hdx 11 O)<|ah (atX hne12 hdx 12 O)<|bI)<|ih (dkS [0,1,2,3,4,5,6,7,8,9,10,11,12] hdk O O) h λu1 u2 lo g14 h=>bL (bD (bD (bD (ah (atX hne0 hdx 3 O)<|ah (atX hne1 hdx 4 O)<|ah (atX hne2 hdx 5 O)<|ah (atX hne5 hdx 6 O)<|ah (atX hne6 hdx 7 O)<|ah (atX hne8 hdx 8 O)<|ah (atX hne9 hdx 9 O)<|ah (atX hne10 hdx 10 O)<|ah (atX hne11 hdx 11 O)<|ah (atX hne12 hdx 12 O)<|bI)<|bp hne7 hdx 2 O O)<|bp hne4 hdx 1 O O)<|bp hne3 hdx 0 O O) ?_
 refine wk 7 λh=>?_
 refine am<|clZ O<|fj (ah (atX hne3 hdx 0 O)<|ah (atX hne4 hdx 1 O)<|ah (atX hne7 hdx 2 O)<|ah (atX hne0 hdx 3 O)<|ah (atX hne1 hdx 4 O)<|ah (atX hne2 hdx 5 O)<|ah (atX hne5 hdx 6 O)<|ah (atX hne6 hdx 7 O)<|ah (atX hne8 hdx 8 O)<|ah (atX hne9 hdx 9 O)<|ah (atX hne10 hdx 10 O)<|ah (atX hne11 hdx 11 O)<|ah (atX hne12 hdx 12 O)<|bI)<|ih (dkS [0,1,2,3,4,5,6,7,8,9,10,11,12] hdk O O) h λu3 u4 hi1 g15 h=>bL (bD (bD (bD (ah (atX hne0 hdx 3 O)<|ah (atX hne1 hdx 4 O)<|ah (atX hne2 hdx 5 O)<|ah (atX hne5 hdx 6 O)<|ah (atX hne6 hdx 7 O)<|ah (atX hne8 hdx 8 O)<|ah (atX hne9 hdx 9 O)<|ah (atX hne10 hdx 10 O)<|ah (atX hne11 hdx 11 O)<|ah (atX hne12 hdx 12 O)<|bI)<|bp hne7 hdx 2 O O)<|bp hne4 hdx 1 O O)<|bp hne3 hdx 0 O O) ?_
 refine wk 10 λh=>?_
 refine am<|bx ue ol GT Fx pE (ps:=[(0,iZ ((at' nodes<|r-2).Y)),(1,iZ lo),(2,iZ hi1)]) O O (v:=.agg [iZ ((at' nodes<|r-2).Y),iZ lo,iZ hi1]) O (wZ rg<|aV xD wV ol (es:=[.agg [iZ ((at' nodes<|r-2).Y),iZ lo,iZ hi1]]) O (kk:=3) O O O O O O (λg16=>tkZ h (λhg1 h=>wZ rg<|cu xD Ba wV ol (es:=u4) (xs:=[(⟨(at' nodes<|r-2).Y,lo,hi1⟩:GDNode)]) (enc:=aG) (atX hne7 hdx 2 O) lzZ (bi (aZ 43 O) lzZ) (kk:=3) O O (λ_=>O) (λ_=>O) hg1 O (λ_=>(bp hne7 hdx 2 O O)) (λg17=>?_))))
 refine wk 11 λh hg2 h=>?_
 refine am<|oE (v:=(1+((u4++[(⟨(at' nodes<|r-2).Y,lo,hi1⟩:GDNode)]).length:Int))) (atX hne4 hdx 1 O) te sd O O O (bp hne4 hdx 1 O O) ?_
 refine wk 5 λh=>?_
 refine am<|rT (atX hne4 hdx 1 O) te sd ok3 (z:=0) gC O O ?_
 refine wk 2 λh=>?_
 exact uZ<|gv1 (hfr _ O)<|hQ _ _ _ _ h
theorem jN {root:Int} {order:List Int} {place:List Int} {nodes:List GDNode} {unique:GMap Int} {memo:GMap Int} {q0 k0 g0 q1 k1 g1 q2 k2 g2 q3 k3 g3 q4 k4 g4 q5 k5 g5:Nat} (hdk:DK [(q0,k0),(q1,k1),(q2,k2),(q3,k3),(q4,k4),(q5,k5)]) {Q:GDiagram->Prop} (h:cI root order place nodes unique memo Q) (hQ:∀r1,Q r1->R (lE r1) (stX S [(q0,k0,.arr 5 [.agg [.sl 1 q1 k1 g1 0 order.length,.sl 1 q2 k2 g2 0 place.length,.sl 3 q3 k3 g3 0 nodes.length,.map q4 k4 g4,.map q5 k5 g5]],g0),(q1,k1,.arr 1 (List.map iZ order),g1),(q2,k2,.arr 1 (List.map iZ place),g2),(q3,k3,.arr 3 (List.map aG nodes),g3),(q4,k4,aC iZ zKt unique,g4),(q5,k5,aC iZ zKt memo,g5)])) :
  Ctr prog 78 [.ptr q0 k0 g0 0 0,iZ root] (stX S [(q0,k0,.arr 5 [.agg [.sl 1 q1 k1 g1 0 order.length,.sl 1 q2 k2 g2 0 place.length,.sl 3 q3 k3 g3 0 nodes.length,.map q4 k4 g4,.map q5 k5 g5]],g0),(q1,k1,.arr 1 (List.map iZ order),g1),(q2,k2,.arr 1 (List.map iZ place),g2),(q3,k3,.arr 3 (List.map aG nodes),g3),(q4,k4,aC iZ zKt unique,g4),(q5,k5,aC iZ zKt memo,g5)]) R:=by
 refine au func78 rfl ntmps78 results78 krZ (λrg hrg=>?_)
 have hdx:DX [(q0,k0,.arr 5 [.agg [.sl 1 q1 k1 g1 0 order.length,.sl 1 q2 k2 g2 0 place.length,.sl 3 q3 k3 g3 0 nodes.length,.map q4 k4 g4,.map q5 k5 g5]],g0),(q1,k1,.arr 1 (List.map iZ order),g1),(q2,k2,.arr 1 (List.map iZ place),g2),(q3,k3,.arr 3 (List.map aG nodes),g3),(q4,k4,aC iZ zKt unique,g4),(q5,k5,aC iZ zKt memo,g5)]:=hdk
 have hfr:=λX' e=>bF (S:=S) (rg:=rg) (X:=[(q0,k0,.arr 5 [.agg [.sl 1 q1 k1 g1 0 order.length,.sl 1 q2 k2 g2 0 place.length,.sl 3 q3 k3 g3 0 nodes.length,.map q4 k4 g4,.map q5 k5 g5]],g0),(q1,k1,.arr 1 (List.map iZ order),g1),(q2,k2,.arr 1 (List.map iZ place),g2),(q3,k3,.arr 3 (List.map aG nodes),g3),(q4,k4,aC iZ zKt unique,g4),(q5,k5,aC iZ zKt memo,g5)]) (X':=X') e hrg
 have hne0:=ak hdx hrg 0 rfl
 have hne1:=ak hdx hrg 1 rfl
 have hne2:=ak hdx hrg 2 rfl
 have hne3:=ak hdx hrg 3 rfl
 have hne4:=ak hdx hrg 4 rfl
 have hne5:=ak hdx hrg 5 rfl
 refine wk 11 λg6 g7 h=>?_
 refine tkZ h (λhg h=>wZ rg<|Gl ge oS ok3 gC (xs:=order) (enc:=iZ) (bi (atX hne1 hdx 1 O) lzZ) (kk:=1) O O (λ_=>O) (λ_=>O) hg O (λg8=>am<|bx wg tX Ad yQ qH (ps:=[(0,.sl 1 rg 12 g8 0 order.length)]) O O (v:=.agg [.sl 1 rg 12 g8 0 order.length,.nil,iZ 0]) O ?_))
 refine wk 5 λg9 h=>?_
 refine wZ rg<|mR (enc:=iZ) te sd trivial (λg10=>am<|zw (v:=0) (aZ 14 O) te sd O O O bY<|am<|zw (v:=1) (aZ 14 O) te sd O O O bY ?_)
 refine wk 10 λg11 g12 h=>?_
 refine wZ rg<|u' (vs:=[]) (us:=[.ptr rg 6 g11 0 0,.ptr rg 2 g6 0 0,.ptr rg 7 g12 0 0,.ptr rg 5 g9 0 0]) O O ?_
 refine wk 6 λh=>?_
 refine Wl.matB 5 1 6001 3 (b:=λg13=>.agg [.sl 1 rg 12 g8 0 order.length,.sl 3 rg 6001 g13 0 (([]:List GDNode).length),iZ 0]) O O dZ dZ O (λg13=>?_)
 obtain⟨_,h⟩:=h
 refine am<|clZ O<|fj (ah (aZ 5 O)<|ah (aZ 14 O)<|ah (aZ 6001 O)<|ah (aZ 6 O)<|ah (aZ 2 O)<|ah (aZ 7 O)<|ah (atX hne0 hdx 0 O)<|ah (aZ 12 O)<|ah (atX hne1 hdx 1 O)<|ah (atX hne2 hdx 2 O)<|ah (atX hne3 hdx 3 O)<|ah (atX hne4 hdx 4 O)<|ah (atX hne5 hdx 5 O)<|bI)<|iJ (qt (bg (gU O)<|bg (gU O)<|bg (gU O)<|bg (gU O)<|bg (gU O)<|bg (cc hne0)<|bg (gU O)<|bg (cc hne1)<|bg (cc hne2)<|bg (cc hne3)<|bg (cc hne4)<|bg (cc hne5)<|qi)<|qt (bg (gU O)<|bg (gU O)<|bg (gU O)<|bg (gU O)<|bg (cc hne0)<|bg (gU O)<|bg (cc hne1)<|bg (cc hne2)<|bg (cc hne3)<|bg (cc hne4)<|bg (cc hne5)<|qi)<|qt (bg (gU O)<|bg (gU O)<|bg (gU O)<|bg (cc hne0)<|bg (gU O)<|bg (cc hne1)<|bg (cc hne2)<|bg (cc hne3)<|bg (cc hne4)<|bg (cc hne5)<|qi)<|qt (bg (gU O)<|bg (gU O)<|bg (cc hne0)<|bg (gU O)<|bg (cc hne1)<|bg (cc hne2)<|bg (cc hne3)<|bg (cc hne4)<|bg (cc hne5)<|qi)<|qt (bg (gU O)<|bg (cc hne0)<|bg (gU O)<|bg (cc hne1)<|bg (cc hne2)<|bg (cc hne3)<|bg (cc hne4)<|bg (cc hne5)<|qi)<|qt (bg (cc hne0)<|bg (gU O)<|bg (cc hne1)<|bg (cc hne2)<|bg (cc hne3)<|bg (cc hne4)<|bg (cc hne5)<|qi)<|qt (bg (cc<|Ne.symm hne0)<|bg (s_ 0 1 hdk O O O)<|bg (s_ 0 2 hdk O O O)<|bg (s_ 0 3 hdk O O O)<|bg (s_ 0 4 hdk O O O)<|bg (s_ 0 5 hdk O O O)<|qi)<|qt (bg (cc hne1)<|bg (cc hne2)<|bg (cc hne3)<|bg (cc hne4)<|bg (cc hne5)<|qi)<|dkS [1,2,3,4,5] hdk O O) h λu u1 r g14 h=>?_
 refine bL (bD (bD (bD (ah (aZ 6 O)<|ah (aZ 2 O)<|ah (aZ 7 O)<|ah (atX hne0 hdx 0 O)<|ah (aZ 12 O)<|ah (atX hne1 hdx 1 O)<|ah (atX hne2 hdx 2 O)<|ah (atX hne3 hdx 3 O)<|ah (atX hne4 hdx 4 O)<|ah (atX hne5 hdx 5 O)<|bI) bY) bY) bY) ?_
 refine wk 5 λh=>?_
 refine am<|cG (aZ 5 O) qH dZ yt O O (v:=.agg [.sl 1 rg 12 g8 0 order.length,.sl 3 rg 6001 g14 0 u1.length,iZ r]) O ?_
 refine wk 2 λh=>?_
 exact uZ<|aO (aZ 4 O) qH dZ yt O O (v:=.agg [.sl 1 rg 12 g8 0 order.length,.sl 3 rg 6001 g14 0 u1.length,iZ r]) O<|aq<|aP (k:=12) (xs:=List.map iZ order) O (v':=.agg [cp order,.sl 3 rg 6001 g14 0 u1.length,iZ r]) (VW.aggL<|vl' (aL O)<|vl' (fT O)<|vZ<|vn)<|aP (k:=6001) (xs:=List.map aG u1) O (v':=.agg [cp order,eL aG u1,iZ r]) (VW.aggL<|vZ<|vl' (aL O)<|vZ<|vn)<|goZ (hfr _ O)<|hQ _ h
theorem lI {a:Int} {b:Int} {order:List Int} {place:List Int} {nodes:List GDNode} {unique:GMap Int} {memo:GMap Int} {q0 k0 g0 q1 k1 g1 q2 k2 g2 q3 k3 g3 q4 k4 g4 q5 k5 g5:Nat} (hdk:DK [(q0,k0),(q3,k3),(q4,k4),(q5,k5),(q1,k1),(q2,k2)]) {Q:List GDNode->GMap Int->GMap Int->Int->Prop} (h:dx a b order place nodes unique memo Q) (hQ:∀r1 r2 r3 r4,∀h3,Q r1 r2 r3 r4->R (iZ r4) (stX S [(q0,k0,.arr 5 [.agg [.sl 1 q1 k1 g1 0 order.length,.sl 1 q2 k2 g2 0 place.length,.sl 3 q3 k3 h3 0 r1.length,.map q4 k4 g4,.map q5 k5 g5]],g0),(q3,k3,.arr 3 (List.map aG r1),h3),(q4,k4,aC iZ zKt r2,g4),(q5,k5,aC iZ zKt r3,g5),(q1,k1,.arr 1 (List.map iZ order),g1),(q2,k2,.arr 1 (List.map iZ place),g2)])) :
  Ctr prog 116 [.ptr q0 k0 g0 0 0,iZ a,iZ b] (stX S [(q0,k0,.arr 5 [.agg [.sl 1 q1 k1 g1 0 order.length,.sl 1 q2 k2 g2 0 place.length,.sl 3 q3 k3 g3 0 nodes.length,.map q4 k4 g4,.map q5 k5 g5]],g0),(q3,k3,.arr 3 (List.map aG nodes),g3),(q4,k4,aC iZ zKt unique,g4),(q5,k5,aC iZ zKt memo,g5),(q1,k1,.arr 1 (List.map iZ order),g1),(q2,k2,.arr 1 (List.map iZ place),g2)]) R:=by
 refine au func116 rfl ntmps116 results116 krZ (λrg hrg=>?_)
 have hdx:DX [(q0,k0,.arr 5 [.agg [.sl 1 q1 k1 g1 0 order.length,.sl 1 q2 k2 g2 0 place.length,.sl 3 q3 k3 g3 0 nodes.length,.map q4 k4 g4,.map q5 k5 g5]],g0),(q3,k3,.arr 3 (List.map aG nodes),g3),(q4,k4,aC iZ zKt unique,g4),(q5,k5,aC iZ zKt memo,g5),(q1,k1,.arr 1 (List.map iZ order),g1),(q2,k2,.arr 1 (List.map iZ place),g2)]:=hdk
 have hfr:=λX' e=>bF (S:=S) (rg:=rg) (X:=[(q0,k0,.arr 5 [.agg [.sl 1 q1 k1 g1 0 order.length,.sl 1 q2 k2 g2 0 place.length,.sl 3 q3 k3 g3 0 nodes.length,.map q4 k4 g4,.map q5 k5 g5]],g0),(q3,k3,.arr 3 (List.map aG nodes),g3),(q4,k4,aC iZ zKt unique,g4),(q5,k5,aC iZ zKt memo,g5),(q1,k1,.arr 1 (List.map iZ order),g1),(q2,k2,.arr 1 (List.map iZ place),g2)]) (X':=X') e hrg
 have hne0:=ak hdx hrg 0 rfl
 have hne3:=ak hdx hrg 1 rfl
 have hne4:=ak hdx hrg 2 rfl
 have hne5:=ak hdx hrg 3 rfl
 have hne1:=ak hdx hrg 4 rfl
 have hne2:=ak hdx hrg 5 rfl
 refine wk 9 λh=>?_
 obtain⟨_,h⟩:=h
 exact am<|clZ O<|fj (ah (atX hne0 hdx 0 O)<|ah (atX hne3 hdx 1 O)<|ah (atX hne4 hdx 2 O)<|ah (atX hne5 hdx 3 O)<|ah (atX hne1 hdx 4 O)<|ah (atX hne2 hdx 5 O)<|bI)<|bN (dkS [0,1,2,3,4,5] hdk O O) h λu u1 u2 r g6 h=>bL (bD (bD (bD (bD (ah (atX hne1 hdx 4 O)<|ah (atX hne2 hdx 5 O)<|bI)<|bp hne5 hdx 3 O O)<|bp hne4 hdx 2 O O)<|bp hne3 hdx 1 O O)<|bp hne0 hdx 0 O O)<|asZ (iZ r) O<|fI<|gv1 (hfr _ O)<|hQ _ _ _ _ _ h
theorem lQ {a:Int} {b:Int} {order:List Int} {place:List Int} {nodes:List GDNode} {unique:GMap Int} {memo:GMap Int} {q0 k0 g0 q1 k1 g1 q2 k2 g2 q3 k3 g3 q4 k4 g4 q5 k5 g5:Nat} (hdk:DK [(q0,k0),(q3,k3),(q4,k4),(q5,k5),(q1,k1),(q2,k2)]) {Q:List GDNode->GMap Int->GMap Int->Int->Prop} (h:dK a b order place nodes unique memo Q) (hQ:∀r1 r2 r3 r4,∀h3,Q r1 r2 r3 r4->R (iZ r4) (stX S [(q0,k0,.arr 5 [.agg [.sl 1 q1 k1 g1 0 order.length,.sl 1 q2 k2 g2 0 place.length,.sl 3 q3 k3 h3 0 r1.length,.map q4 k4 g4,.map q5 k5 g5]],g0),(q3,k3,.arr 3 (List.map aG r1),h3),(q4,k4,aC iZ zKt r2,g4),(q5,k5,aC iZ zKt r3,g5),(q1,k1,.arr 1 (List.map iZ order),g1),(q2,k2,.arr 1 (List.map iZ place),g2)])) :
  Ctr prog 117 [.ptr q0 k0 g0 0 0,iZ a,iZ b] (stX S [(q0,k0,.arr 5 [.agg [.sl 1 q1 k1 g1 0 order.length,.sl 1 q2 k2 g2 0 place.length,.sl 3 q3 k3 g3 0 nodes.length,.map q4 k4 g4,.map q5 k5 g5]],g0),(q3,k3,.arr 3 (List.map aG nodes),g3),(q4,k4,aC iZ zKt unique,g4),(q5,k5,aC iZ zKt memo,g5),(q1,k1,.arr 1 (List.map iZ order),g1),(q2,k2,.arr 1 (List.map iZ place),g2)]) R:=by
 refine au func117 rfl ntmps117 results117 krZ (λrg hrg=>?_)
 have hdx:DX [(q0,k0,.arr 5 [.agg [.sl 1 q1 k1 g1 0 order.length,.sl 1 q2 k2 g2 0 place.length,.sl 3 q3 k3 g3 0 nodes.length,.map q4 k4 g4,.map q5 k5 g5]],g0),(q3,k3,.arr 3 (List.map aG nodes),g3),(q4,k4,aC iZ zKt unique,g4),(q5,k5,aC iZ zKt memo,g5),(q1,k1,.arr 1 (List.map iZ order),g1),(q2,k2,.arr 1 (List.map iZ place),g2)]:=hdk
 have hfr:=λX' e=>bF (S:=S) (rg:=rg) (X:=[(q0,k0,.arr 5 [.agg [.sl 1 q1 k1 g1 0 order.length,.sl 1 q2 k2 g2 0 place.length,.sl 3 q3 k3 g3 0 nodes.length,.map q4 k4 g4,.map q5 k5 g5]],g0),(q3,k3,.arr 3 (List.map aG nodes),g3),(q4,k4,aC iZ zKt unique,g4),(q5,k5,aC iZ zKt memo,g5),(q1,k1,.arr 1 (List.map iZ order),g1),(q2,k2,.arr 1 (List.map iZ place),g2)]) (X':=X') e hrg
 have hne0:=ak hdx hrg 0 rfl
 have hne3:=ak hdx hrg 1 rfl
 have hne4:=ak hdx hrg 2 rfl
 have hne5:=ak hdx hrg 3 rfl
 have hne1:=ak hdx hrg 4 rfl
 have hne2:=ak hdx hrg 5 rfl
 refine wk 9 λh=>?_
 obtain⟨_,h⟩:=h
 exact am<|clZ O<|fj (ah (atX hne0 hdx 0 O)<|ah (atX hne3 hdx 1 O)<|ah (atX hne4 hdx 2 O)<|ah (atX hne5 hdx 3 O)<|ah (atX hne1 hdx 4 O)<|ah (atX hne2 hdx 5 O)<|bI)<|bN (dkS [0,1,2,3,4,5] hdk O O) h λu u1 u2 r g6 h=>bL (bD (bD (bD (bD (ah (atX hne1 hdx 4 O)<|ah (atX hne2 hdx 5 O)<|bI)<|bp hne5 hdx 3 O O)<|bp hne4 hdx 2 O O)<|bp hne3 hdx 1 O O)<|bp hne0 hdx 0 O O)<|asZ (iZ r) O<|fI<|gv1 (hfr _ O)<|hQ _ _ _ _ _ h
theorem lH {a:Int} {b:Int} {order:List Int} {place:List Int} {nodes:List GDNode} {unique:GMap Int} {memo:GMap Int} {q0 k0 g0 q1 k1 g1 q2 k2 g2 q3 k3 g3 q4 k4 g4 q5 k5 g5:Nat} (hdk:DK [(q0,k0),(q3,k3),(q4,k4),(q5,k5),(q1,k1),(q2,k2)]) {Q:List GDNode->GMap Int->GMap Int->Int->Prop} (h:dv a b order place nodes unique memo Q) (hQ:∀r1 r2 r3 r4,∀h3,Q r1 r2 r3 r4->R (iZ r4) (stX S [(q0,k0,.arr 5 [.agg [.sl 1 q1 k1 g1 0 order.length,.sl 1 q2 k2 g2 0 place.length,.sl 3 q3 k3 h3 0 r1.length,.map q4 k4 g4,.map q5 k5 g5]],g0),(q3,k3,.arr 3 (List.map aG r1),h3),(q4,k4,aC iZ zKt r2,g4),(q5,k5,aC iZ zKt r3,g5),(q1,k1,.arr 1 (List.map iZ order),g1),(q2,k2,.arr 1 (List.map iZ place),g2)])) :
  Ctr prog 118 [.ptr q0 k0 g0 0 0,iZ a,iZ b] (stX S [(q0,k0,.arr 5 [.agg [.sl 1 q1 k1 g1 0 order.length,.sl 1 q2 k2 g2 0 place.length,.sl 3 q3 k3 g3 0 nodes.length,.map q4 k4 g4,.map q5 k5 g5]],g0),(q3,k3,.arr 3 (List.map aG nodes),g3),(q4,k4,aC iZ zKt unique,g4),(q5,k5,aC iZ zKt memo,g5),(q1,k1,.arr 1 (List.map iZ order),g1),(q2,k2,.arr 1 (List.map iZ place),g2)]) R:=by
 refine au func118 rfl ntmps118 results118 krZ (λrg hrg=>?_)
 have hdx:DX [(q0,k0,.arr 5 [.agg [.sl 1 q1 k1 g1 0 order.length,.sl 1 q2 k2 g2 0 place.length,.sl 3 q3 k3 g3 0 nodes.length,.map q4 k4 g4,.map q5 k5 g5]],g0),(q3,k3,.arr 3 (List.map aG nodes),g3),(q4,k4,aC iZ zKt unique,g4),(q5,k5,aC iZ zKt memo,g5),(q1,k1,.arr 1 (List.map iZ order),g1),(q2,k2,.arr 1 (List.map iZ place),g2)]:=hdk
 have hfr:=λX' e=>bF (S:=S) (rg:=rg) (X:=[(q0,k0,.arr 5 [.agg [.sl 1 q1 k1 g1 0 order.length,.sl 1 q2 k2 g2 0 place.length,.sl 3 q3 k3 g3 0 nodes.length,.map q4 k4 g4,.map q5 k5 g5]],g0),(q3,k3,.arr 3 (List.map aG nodes),g3),(q4,k4,aC iZ zKt unique,g4),(q5,k5,aC iZ zKt memo,g5),(q1,k1,.arr 1 (List.map iZ order),g1),(q2,k2,.arr 1 (List.map iZ place),g2)]) (X':=X') e hrg
 have hne0:=ak hdx hrg 0 rfl
 have hne3:=ak hdx hrg 1 rfl
 have hne4:=ak hdx hrg 2 rfl
 have hne5:=ak hdx hrg 3 rfl
 have hne1:=ak hdx hrg 4 rfl
 have hne2:=ak hdx hrg 5 rfl
 refine wk 10 λh=>?_
 refine am<|clZ O<|fj (ah (atX hne0 hdx 0 O)<|ah (atX hne3 hdx 1 O)<|ah (atX hne4 hdx 2 O)<|ah (atX hne5 hdx 3 O)<|ah (atX hne1 hdx 4 O)<|ah (atX hne2 hdx 5 O)<|bI)<|gy (dkS [0,1,2,3,4,5] hdk O O) h λu u1 u2 r g6 h=>bL (bD (bD (bD (bD (ah (atX hne1 hdx 4 O)<|ah (atX hne2 hdx 5 O)<|bI)<|bp hne5 hdx 3 O O)<|bp hne4 hdx 2 O O)<|bp hne3 hdx 1 O O)<|bp hne0 hdx 0 O O)<|mvZ (iZ b) O ?_
 obtain⟨_,h⟩:=h
 exact am<|clZ O<|fj (ah (atX hne0 hdx 0 O)<|ah (atX hne3 hdx 1 O)<|ah (atX hne4 hdx 2 O)<|ah (atX hne5 hdx 3 O)<|ah (atX hne1 hdx 4 O)<|ah (atX hne2 hdx 5 O)<|bI)<|bN (dkS [0,1,2,3,4,5] hdk O O) h λu3 u4 u5 r1 g7 h=>bL (bD (bD (bD (bD (ah (atX hne1 hdx 4 O)<|ah (atX hne2 hdx 5 O)<|bI)<|bp hne5 hdx 3 O O)<|bp hne4 hdx 2 O O)<|bp hne3 hdx 1 O O)<|bp hne0 hdx 0 O O)<|asZ (iZ r1) O<|fI<|gv1 (hfr _ O)<|hQ _ _ _ _ _ h
end Go.Proofs.YtcmagbhiioheeaaGreatDoor
namespace Go.Proofs.YtcmagbhiioheeaaGreatDoor
open Go.Gg Tryz
set_option maxRecDepth 100000
set_option maxHeartbeats 2000000
variable {S:St} {R:AV->St->Prop}
theorem lP {fu:Nat}:∀ {arg:Int} {J:Int} {w:List GNode} {w1:Int} {events:List Int} {seen:List Bool} {q0 k0 g0 q1 k1 g1 q2 k2 g2:Nat} (hdk:DK [(q0,k0),(q1,k1),(q2,k2)]) {Q:List Int->List Bool->Prop} {S:St} {R:AV->St->Prop} (h:cd fu arg J w w1 events seen Q) (hQ:∀r1 r2,∀h1,Q r1 r2->R (.tuple []) (stX S [(q0,k0,.arr 5 [.agg [.int .i64 J,eL cz w,.int .i64 w1,.sl 1 q1 k1 h1 0 r1.length,.sl 1 q2 k2 g2 0 r2.length]],g0),(q1,k1,.arr 1 (List.map iZ r1),h1),(q2,k2,.arr 1 (List.map AV.bool r2),g2)])),
  Ctr prog 111 [.ptr q0 k0 g0 0 0,iZ arg] (stX S [(q0,k0,.arr 5 [.agg [.int .i64 J,eL cz w,.int .i64 w1,.sl 1 q1 k1 g1 0 events.length,.sl 1 q2 k2 g2 0 seen.length]],g0),(q1,k1,.arr 1 (List.map iZ events),g1),(q2,k2,.arr 1 (List.map AV.bool seen),g2)]) R:=by
 induction fu with
 | zero=>
  intro arg J w w1 events seen q0 k0 g0 q1 k1 g1 q2 k2 g2 hdk Q S R h hQ
  exact False.elim h
 | succ fu ih=>
 intro arg J w w1 events seen q0 k0 g0 q1 k1 g1 q2 k2 g2 hdk Q S R h hQ
 rw[cd] at h
 refine au func111 rfl ntmps111 results111 krZ (λrg hrg=>?_)
 have hdx:DX [(q0,k0,.arr 5 [.agg [.int .i64 J,eL cz w,.int .i64 w1,.sl 1 q1 k1 g1 0 events.length,.sl 1 q2 k2 g2 0 seen.length]],g0),(q1,k1,.arr 1 (List.map iZ events),g1),(q2,k2,.arr 1 (List.map AV.bool seen),g2)]:=hdk
 have hfr:=λX' e=>bF (S:=S) (rg:=rg) (X:=[(q0,k0,.arr 5 [.agg [.int .i64 J,eL cz w,.int .i64 w1,.sl 1 q1 k1 g1 0 events.length,.sl 1 q2 k2 g2 0 seen.length]],g0),(q1,k1,.arr 1 (List.map iZ events),g1),(q2,k2,.arr 1 (List.map AV.bool seen),g2)]) (X':=X') e hrg
 have hne0:=ak hdx hrg 0 rfl
 have hne1:=ak hdx hrg 1 rfl
 have hne2:=ak hdx hrg 2 rfl
 refine wk 11 λh hi h=>?_
 refine cZ h O (λhb h=>?_) (λhb h=>?_)
 ·exact uZ<|gv0 (hfr _ O)<|hQ _ _ _ h
 refine wk 22 λh hi1 h=>?_
 refine cZ h O (λhb1 h=>?_) (λhb1 h=>?_)
 ·refine wk 8 λh=>?_
  refine wZ rg<|aV ge ok3 gC (es:=[iZ arg]) O (kk:=1) O O O O O O (λg3=>tkZ h (λhg h=>wZ rg<|cu ge oS ok3 gC (es:=events) (xs:=[arg]) (enc:=iZ) (atX hne1 hdx 1 O) lzZ (bi (aZ 32 O) lzZ) (kk:=1) O O (λ_=>O) (λ_=>O) hg O (λ_=>(bp hne1 hdx 1 O O)) (λg4=>?_)))
  refine wk 4 λh=>?_
  exact uZ<|aq<|Dd hne0 hdx 0 O (o':=.arr 5 [.agg [iZ J,eL cz w,iZ w1,.sl 1 q1 k1 g4 0 ((events++[arg]).length),.sl 1 q2 k2 g2 0 ((aN seen arg true).length)]]) O (OW.one<|VWL.vwc<|vZ<|vZ<|vZ<|vZ<|vl' (VW.slen lzZ)<|vn) (goZ (hfr _ O)<|hQ _ _ _ h)
 refine kZ<|qZ<|tkZ h (λhg1 h=>tkZ h (λhg2 h=>Vc.drawn' mixed rg (λ_=>iV) krZ ?_))
 refine wk 11 λh=>?_
 refine dP O O<|jY O O hg1<|dP O O<|fv Ft Fz dZ (λ_=>O) O O hg2 ?_
 refine wk 6 λh=>?_
 refine lgZ h g1 (λy=>aw [(0,.ptr q0 k0 g0 0 0),(50,cp ((at' w<|arg-J).M)),(51,iZ (((at' w<|arg-J).M).length:Int)),(52,iZ y.1.1)]) (λy=>stL (stX S [(q0,k0,.arr 5 [.agg [iZ J,eL cz w,iZ w1,.sl 1 q1 k1 y.2 0 y.1.2.1.length,.sl 1 q2 k2 g2 0 y.1.2.2.length]],g0),(q1,k1,.arr 1 (List.map iZ y.1.2.1),y.2),(q2,k2,.arr 1 (List.map AV.bool y.1.2.2),g2)]) rg []) (EWk.trans (EWk.owX hne0 hdx 0 O (o':=.arr 5 [.agg [iZ J,eL cz w,iZ w1,.sl 1 q1 k1 g1 0 events.length,.sl 1 q2 k2 g2 0 ((aN seen arg true).length)]]) O (OW.one<|VWL.vwc<|vZ<|vZ<|vZ<|vZ<|vl' (VW.slen lzZ)<|vn)) (canon (gb<|fn)<|sn)) (λy _ h=>?_)
 obtain⟨⟨x,x1,x2⟩,g5⟩:=y
 refine wk 5 λh=>?_
 refine cZ h O (λhb2 h=>?_) (λhb2 h=>?_)
 ·refine wk 12 λh hg3 h=>?_
  refine am<|clZ O<|fj (ah (atX hne0 hdx 0 O)<|ah (atX hne1 hdx 1 O)<|ah (atX hne2 hdx 2 O)<|bI)<|ih (dkS [0,1,2] hdk O O) h λu u1 g6 h=>bL (bD (bD (bD (bI)<|bp hne2 hdx 2 O O)<|bp hne1 hdx 1 O O)<|bp hne0 hdx 0 O O)<|tkZ h (λhl h=>?_)
  exact wk 9999 trivial
 exact xsZ<|gv0 (hfr _ O)<|hQ _ _ _ h
theorem tz {f:GFormula} {Q:List Int->List Bool->Prop} (h:my f Q) (hQ:∀r1 r2,Q r1 r2->R (.tuple [cp r1,eL AV.bool r2]) S) :
  Ctr prog 70 [aI f] S R:=by
 refine au func70 rfl ntmps70 results70 krZ (λrg hrg=>?_)
 refine wk 7 λg1 h=>?_
 refine tkZ h (λhg h=>tkZ h (λhg1 h=>Vc.drawn' mixed rg (λ_=>iV) krZ ?_))
 refine wk 6 λh=>?_
 refine dP O O<|qh O O hg<|dL (E:=([],[(rg,13)])) O O zSm (cfo krZ<|cfo krZ<|cfa zAp eCf) (fg mf wC ok4 (enc:=AV.bool) (z':=false) pt (kk:=1) O O O hg1 (λg2=>dP O O<|bx wI Ao UU Rw FC (ps:=[(0,aI f),(2,.sl 1 rg 13 g2 0 (Int.toNat<|f.A+(f.N.length:Int)))]) O O (v:=.agg [iZ f.A,eL cz f.N,iZ f.Z,.nil,.sl 1 rg 13 g2 0 (Int.toNat<|f.A+(f.N.length:Int))]) O ?_))
 refine wk 8 λg3 h=>?_
 refine Wl.matB 15 3 16003 1 (b:=λg4=>.agg [iZ f.A,eL cz f.N,iZ f.Z,.sl 1 rg 16003 g4 0 (([]:List Int).length),.sl 1 rg 13 g2 0 (Int.toNat<|f.A+(f.N.length:Int))]) O O dZ dZ O (λg4=>dr (EWk.ow (k:=15) (o':=.arr 5 [.agg [iZ f.A,eL cz f.N,iZ f.Z,.sl 1 rg 16003 g4 0 (([]:List Int).length),.sl 1 rg 13 g2 0 ((aQ (f.A+(f.N.length:Int)) false).length)]]) O (OW.one<|VWL.vwc<|vZ<|vZ<|vZ<|vZ<|vl' (VW.slen lzZ)<|vn)) ?_)
 obtain⟨_,h⟩:=h
 refine am<|clZ O<|fj (ah (aZ 15 O)<|ah (aZ 16003 O)<|ah (aZ 13 O)<|bI)<|lP eDk h λu u1 g5 h=>bL (bD (bD (bD (bI) bY) bY) bY)<|tkZ h (λhl h=>?_)
 refine wk 9 λh=>?_
 refine lgZ h g5 (λy=>aw [(4,.ptr rg 15 g3 0 0),(21,iZ f.A),(22,iZ y.1.1)]) (λy=>stL S rg [(13,.arr 1 (List.map AV.bool u1),g2),(15,.arr 5 [.agg [iZ f.A,eL cz f.N,iZ f.Z,.sl 1 rg 16003 y.2 0 y.1.2.length,.sl 1 rg 13 g2 0 u1.length]],g3),(16003,.arr 1 (List.map iZ y.1.2),y.2)]) eCa (λy _ h=>?_)
 obtain⟨⟨x,x1⟩,g6⟩:=y
 refine wk 5 λh=>?_
 refine cZ h O (λhb h=>?_) (λhb h=>?_)
 ·refine wk 19 λh hi h=>?_
  refine cZ h O (λhb1 h=>?_) (λhb1 h=>?_)
  ·refine wk 7 λh=>?_
   refine wZ rg<|aV ge ok3 gC (es:=[iZ x]) O (kk:=1) O O O O O O (λg7=>tkZ h (λhg2 h=>wZ rg<|cu ge oS ok3 gC (es:=x1) (xs:=[x]) (enc:=iZ) (aZ 16003 O) lzZ (bi (aZ 39 O) lzZ) (kk:=1) O O (λ_=>O) (λ_=>O) hg2 O (λ_=>bY) (λg8=>?_)))
   exact wk 9999 trivial
  exact wk 9999 trivial
 refine xsZ<|qZ<|Vc.drawn' mixed rg (λ_=>iV) krZ ?_
 refine wk 11 λh=>?_
 exact uZ<|aj (v:=.sl 1 rg 16003 g6 0 x1.length) O<|aj (v:=.sl 1 rg 13 g2 0 u1.length) O<|aq<|aP (k:=13) (xs:=List.map AV.bool u1) O (v':=.tuple [.sl 1 rg 16003 g6 0 x1.length,eL AV.bool u1]) (VW.tupL<|vl' (fT O)<|vl' (aL O)<|vn)<|aP (k:=16003) (xs:=List.map iZ x1) O (v':=.tuple [cp x1,eL AV.bool u1]) (VW.tupL<|vl' (aL O)<|vZ<|vn)<|ar hrg eVw<|hQ _ _ h
theorem tA {f:GFormula} {Q:List Int->Option Int->Prop} (h:mz f Q) (hQ:∀r1 r2,Q r1 r2->R (.tuple [cp r1,cw 39 r2]) S) :
  Ctr prog 36 [aI f] S R:=by
 refine au func36 rfl ntmps36 results36 krZ (λrg hrg=>?_)
 refine wk 10 λg1 h=>?_
 refine am<|clZ O<|dJ h λerr h=>?_
 refine wk 7 λh=>?_
 refine cZ h O (λhb h=>?_) (λhb h=>?_)
 ·refine wk 6 λh=>?_
  exact uZ<|aj (v:=.nil) O<|aj (v:=cw 39 err) O<|aq<|ar hrg (VW.tupL<|vl' (VW.nilL)<|vZ<|vn)<|hQ _ _ h
 refine wk 4 λh=>?_
 refine am<|clZ O<|tz h λr r1 h=>?_
 refine wk 12 λh=>?_
 exact uZ<|aj (v:=cp r) O<|aj (v:=.niface) O<|aq<|ar hrg eVw<|hQ _ _ h
theorem tB {o:List Int} {vars:Int} {Q:Option Int->Prop} (h:mA o vars Q) (hQ:∀r1,Q r1->R (cw 39 r1) S) :
  Ctr prog 72 [cp o,iZ vars] S R:=by
 refine au func72 rfl ntmps72 results72 krZ (λrg hrg=>?_)
 refine wk 6 λh=>?_
 refine jnZ h (λy=>aw [(0,cp o),(1,iZ vars),(8,.bool y)]) (λy=>stL S rg []) (λx h=>?_) (λ_ h=>?_)
 ·refine cZ h O (λhb h=>?_) (λhb h=>?_)
  ·refine wk 5 λh=>?_
   exact uZ<|gv1 hrg<|hQ _ h
  refine wk 8 λh=>?_
  refine cZ h O (λhb1 h=>?_) (λhb1 h=>?_)
  ·refine wk 5 λh=>?_
   exact uZ<|gv1 hrg<|hQ _ h
  refine wk 4 λh=>?_
  refine tkZ h (λhg h=>wZ rg<|fg mf wC ok4 (enc:=AV.bool) (z':=false) pt (kk:=1) O O O hg (λg1=>?_))
  refine wk 10 λh=>?_
  refine lgZ h g1 (λy=>aw [(1,iZ vars),(5,.sl 1 rg 23 y.2 0 y.1.2.length),(24,cp o),(25,iZ (o.length:Int)),(26,iZ y.1.1)]) (λy=>stL S rg [(23,.arr 1 (List.map AV.bool y.1.2),y.2)]) (canon (fZ<|fc (VW.slen lzZ)<|fZ<|fZ<|fZ<|fn)<|sc O<|sn) (λy _ h=>?_)
  obtain⟨⟨x1,seen⟩,g2⟩:=y
  refine wk 5 λh=>?_
  refine cZ h O (λhb2 h=>?_) (λhb2 h=>?_)
  ·refine wk 10 λh hg1 h=>?_
   refine jgZ (γ:=Nat) h (λy=>aw [(1,iZ vars),(5,.sl 1 rg 23 y.2 0 seen.length),(7,iZ (at' o x1)),(24,cp o),(25,iZ (o.length:Int)),(26,iZ x1),(36,.bool y.1)]) (λy=>stL S rg [(23,.arr 1 (List.map AV.bool seen),y.2)]) (λy h=>?_) (λ_ h=>?_)
   ·obtain⟨x2,g3⟩:=y
    refine cZ h O (λhb3 h=>?_) (λhb3 h=>?_)
    ·refine wk 5 λh=>?_
     exact uZ<|gv1 hrg<|hQ _ h
    refine wk 9 λh hi h=>?_
    refine cZ h O (λhb4 h=>?_) (λhb4 h=>?_)
    ·refine wk 5 λh=>?_
     exact uZ<|gv1 hrg<|hQ _ h
    exact wk 9999 trivial
   exact wk 9999 trivial
  refine wk 5 λh=>?_
  exact uZ<|gv1 hrg<|hQ _ h
 exact wk 9999 trivial
end Go.Proofs.YtcmagbhiioheeaaGreatDoor
