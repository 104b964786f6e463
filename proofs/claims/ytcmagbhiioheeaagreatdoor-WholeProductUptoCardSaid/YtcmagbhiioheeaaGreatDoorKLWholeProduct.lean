/- Walks of functions. Conditions: none. -/
import Derived.Test.YtcmagbhiioheeaaGreatDoorWa
import Derived.Test.YtcmagbhiioheeaaGreatDoorGgTy
import Derived.Test.YtcmagbhiioheeaaGreatDoorGj
import Derived.Test.YtcmagbhiioheeaaGreatDoorK1
import Derived.Test.YtcmagbhiioheeaaGreatDoorK2
import Derived.Test.YtcmagbhiioheeaaGreatDoorK3
namespace Go.Proofs.YtcmagbhiioheeaaGreatDoor
open Go.Gg
set_option maxRecDepth 100000
set_option maxHeartbeats 2000000
variable {S:St} {R:AV->St->Prop}
theorem ou {f:GFormula} {fail:List GRat} {repair:List GRat} {Q:Bool->Prop} (h:ia f fail repair Q) (hQ:∀r1,Q r1->R (AV.bool r1) S) :
  Ctr Tryz.prog 3 [aI f,eL af fail,eL af repair] S R:=by
 refine au Tryz.func3 rfl Tryz.ntmps3 Tryz.results3 krZ (λrg hrg=>?_)
 refine wk 6 λg1 h=>?_
 refine jgZ (γ:=Nat) h (λy=>aw [(1,eL af fail),(2,eL af repair),(3,.ptr rg 3 y.2 0 0),(56,.bool y.1)]) (λy=>stL S rg [(3,.arr 3 [aI f],y.2)]) (λy h=>?_) (λ_ h=>?_)
 ·obtain⟨x,g2⟩:=y
  refine cZ h O (λhb h=>?_) (λhb h=>?_)
  ·exact dA<|am<|clZ O<|nU h λr h=>asZ (.bool r) O<|fI<|gv1 hrg<|hQ _ h
  refine kZ<|qZ<|dA<|wZ rg<|aV df iT cx (es:=[]) O (kk:=3) O O O O O O (λg3=>mvZ (eL af fail) O<|tkZ h (λhg h=>wZ rg<|cu df iM iT cx (es:=([]:List GRat)) (xs:=fail) (enc:=af) (aZ 58 O) lzZ (O) (kk:=3) O O (λ_=>O) (λ_=>O) hg O (λ_=>bY) (λg4=>mvZ (eL af repair) O<|tkZ h (λhg1 h=>wZ rg<|cu df iM iT cx (es:=(([]:List GRat)++fail)) (xs:=repair) (enc:=af) (aZ 58 O) lzZ (O) (kk:=3) O O (λ_=>O) (λ_=>O) hg1 O (λ_=>bY) (λg5=>?_)))))
  refine wk 4 λh=>?_
  refine lpZ h (λy=>aw [(1,eL af fail),(2,eL af repair),(3,.ptr rg 3 g2 0 0),(62,.sl 3 rg 58 g5 0 (((([]:List GRat)++fail)++repair).length)),(63,iZ (((([]:List GRat)++fail)++repair).length:Int)),(64,iZ y)]) (λy=>stL S rg [(3,.arr 3 [aI f],g2),(58,.arr 3 (List.map af<|(([]:List GRat)++fail)++repair),g5)]) eCa (λx1 _ h=>?_)
  refine wk 5 λh=>?_
  refine cZ h O (λhb1 h=>?_) (λhb1 h=>?_)
  ·refine wk 13 λg6 h hi h=>?_
   refine am<|clZ O<|nV h λr1 h=>?_
   refine wk 2 λh=>?_
   refine gfZ h O O (λhb2 h=>?_) (λhb2 h=>?_)
   ·refine wk 2 λh=>?_
    refine am<|clZ O<|uA h λr2 h=>?_
    refine wk 4 λh=>?_
    refine gfZ h O O (λhb3 h=>?_) (λhb3 h=>?_)
    ·refine wk 9 λh=>?_
     refine gfZ h O O (λhb4 h=>?_) (λhb4 h=>?_)
     ·refine wk 9 λh=>?_
      refine gfZ h O O (λhb5 h=>?_) (λhb5 h=>?_)
      ·refine wk 9 λh=>?_
       refine gtZ h O O (λhb6 h=>?_) (λhb6 h=>?_)
       ·refine wk 11 λh hg2 h=>?_
        refine gfZ h O O (λhb7 h=>?_) (λhb7 h=>?_)
        ·refine wk 15 λh hg3 h=>?_
         refine cZ h O (λhb8 h=>?_) (λhb8 h=>?_)
         ·refine wk 4 λh=>?_
          exact uZ<|gv1 hrg<|hQ _ h
         exact wk 9999 trivial
        refine wk 10 λh=>?_
        refine cTZ O O ?_
        refine wk 4 λh=>?_
        exact uZ<|gv1 hrg<|hQ _ h
       refine wk 15 λh=>?_
       refine cFZ O O ?_
       exact wk 9999 trivial
      refine wk 19 λh=>?_
      refine cTZ O O ?_
      refine wk 4 λh=>?_
      exact uZ<|gv1 hrg<|hQ _ h
     refine wk 25 λh=>?_
     refine cTZ O O ?_
     refine wk 4 λh=>?_
     exact uZ<|gv1 hrg<|hQ _ h
    refine wk 31 λh=>?_
    refine cTZ O O ?_
    refine wk 4 λh=>?_
    exact uZ<|gv1 hrg<|hQ _ h
   refine wk 36 λh=>?_
   refine cTZ O O ?_
   refine wk 4 λh=>?_
   exact uZ<|gv1 hrg<|hQ _ h
  refine wk 13 λh=>?_
  refine Vc.mat 9 133 3 O dZ (λg7=>lgZ h g7 (λy=>aw [(1,eL af fail),(2,eL af repair),(3,.ptr rg 3 g2 0 0),(9,.sl 3 rg 133 y.2 0 y.1.2.length),(110,iZ (fail.length:Int)),(111,iZ y.1.1)]) (λy=>stL S rg [(3,.arr 3 [aI f],g2),(133,.arr 3 (List.map af y.1.2),y.2)]) (canon (fZ<|fZ<|fZ<|fc (VW.slen lzZ)<|fZ<|fZ<|fn)<|sc O<|sc O<|sn) (λy _ h=>?_))
  obtain⟨⟨x2,q⟩,g8⟩:=y
  refine wk 5 λh=>?_
  refine cZ h O (λhb9 h=>?_) (λhb9 h=>?_)
  ·refine wk 9 λh=>?_
   refine tkZ h (λhg6 h=>tkZ h (λhg7 h=>?_))
   obtain⟨r3,r4,hc,h⟩:=h
   refine Vc.drawn' mixed rg (gd [(8,pc (.tuple [af r3,cw 39 r4]))]) krZ ?_
   refine wk 2 λh=>?_
   refine dP O O<|fv df bf dZ (λ_=>O) O O hg6 ?_
   refine wk 3 λh=>?_
   refine dP O O<|fv df bf dZ (λ_=>O) O O hg7 ?_
   refine wk 1 λh=>?_
   refine dC (vs:=[af (at' fail x2),af (at' repair x2)]) O (vZ<|vZ<|vn) (λ_=>ip hc (λ_ _ hr=>⟨by rw[hr.1,hr.2],rfl⟩)) O ?_
   refine wk 13 λg9 h=>?_
   refine cZ h O (λhb10 h=>?_) (λhb10 h=>?_)
   ·refine wk 3 λh=>?_
    exact am<|clZ O<|Af h λr5 h=>asZ (.bool r5) O<|fI<|gv1 hrg<|hQ _ h
   refine wk 4 λh=>?_
   refine wZ rg<|aV df iT cx (es:=[af r3]) O (kk:=3) O O O O O O (λg10=>tkZ h (λhg8 h=>wZ rg<|cu df iM iT cx (es:=q) (xs:=[r3]) (enc:=af) (aZ 133 O) lzZ (bi (aZ 132 O) lzZ) (kk:=3) O O (λ_=>O) (λ_=>O) hg8 O (λ_=>bY) (λg11=>?_)))
   exact wk 9999 trivial
  refine wk 6 λh=>?_
  refine am<|clZ O<|qU h λr6 r7 h=>?_
  refine wk 11 λg12 h=>?_
  refine am<|clZ O<|nE h λr8 r9 h=>?_
  refine wk 10 λh=>?_
  refine dr (aW (k:=133) (xs:=List.map af q) O (es:=[(13,.ptr rg 13 g12 0 0),(14,cw 39 r7),(15,eL af r8),(16,cw 39 r9),(149,aI f),(150,eL af q)]) (fZ<|fc (YM)<|fZ<|fc (YM)<|fZ<|fc (aL O)<|fn) (m:=[(13,.arr 4 [bq r6],g12)]) (sc O<|sn)) (am<|clZ O<|tk h λr10 r11 h=>?_)
  refine wk 13 λg13 h=>?_
  refine gfZ h O O (λhb11 h=>?_) (λhb11 h=>?_)
  ·refine wk 5 λh=>?_
   refine gfZ h O O (λhb12 h=>?_) (λhb12 h=>?_)
   ·refine wk 5 λh=>?_
    refine cZ h O (λhb13 h=>?_) (λhb13 h=>?_)
    ·refine wk 4 λh=>?_
     exact uZ<|gv1 hrg<|hQ _ h
    refine wk 4 λh=>?_
    refine am<|clZ O<|jG h λr12 r13 h=>?_
    refine wk 10 λh=>?_
    refine am<|clZ O<|np h λr14 r15 h=>?_
    refine wk 10 λh=>?_
    refine am<|clZ O<|pu h λr16 r17 h=>?_
    refine wk 13 λg14 h=>?_
    refine gfZ h O O (λhb14 h=>?_) (λhb14 h=>?_)
    ·refine wk 5 λh=>?_
     refine gfZ h O O (λhb15 h=>?_) (λhb15 h=>?_)
     ·refine wk 5 λh=>?_
      refine gfZ h O O (λhb16 h=>?_) (λhb16 h=>?_)
      ·refine wk 5 λh=>?_
       refine gfZ h O O (λhb17 h=>?_) (λhb17 h=>?_)
       ·refine wk 11 λh=>?_
        refine gfZ h O O (λhb18 h=>?_) (λhb18 h=>?_)
        ·refine wk 4 λh=>?_
         refine am<|clZ O<|gK h λr18 h=>?_
         refine wk 4 λh=>?_
         refine cZ h O (λhb19 h=>?_) (λhb19 h=>?_)
         ·refine wk 4 λh=>?_
          exact uZ<|gv1 hrg<|hQ _ h
         refine wk 9 λh=>?_
         refine lpZ h (λy=>aw [(15,eL af r8),(19,eL af r12),(209,iZ (r8.length:Int)),(210,iZ y)]) (λy=>stL S rg []) eCa (λx3 _ h=>?_)
         refine wk 5 λh=>?_
         refine cZ h O (λhb20 h=>?_) (λhb20 h=>?_)
         ·refine wk 9 λh=>?_
          refine tkZ h (λhg10 h=>tkZ h (λhg11 h=>?_))
          obtain⟨r19,hc1,h⟩:=h
          refine Vc.drawn' mixed rg (gd [(8,pc (iZ r19))]) krZ ?_
          refine wk 2 λh=>?_
          refine dP O O<|fv df bf dZ (λ_=>O) O O hg10 ?_
          refine wk 3 λh=>?_
          refine dP O O<|fv df bf dZ (λ_=>O) O O hg11 ?_
          refine wk 1 λh=>?_
          refine dC (vs:=[af (at' r8 x3),af (at' r12 x3)]) O (vZ<|vZ<|vn) (λ_=>gK hc1 (λ_ hr=>⟨by rw[hr],rfl⟩)) O<|dP O O<|Ga O O<|dN<|cZ h O (λhb21 h=>?_) (λhb21 h=>?_)
          ·refine wk 4 λh=>?_
           exact uZ<|gv1 hrg<|hQ _ h
          exact wk 9999 trivial
         refine wk 5 λh=>?_
         exact uZ<|gv1 hrg<|hQ _ h
        refine wk 5 λh=>?_
        refine cTZ O O ?_
        refine wk 4 λh=>?_
        exact uZ<|gv1 hrg<|hQ _ h
       refine wk 12 λh=>?_
       refine cTZ O O ?_
       refine wk 4 λh=>?_
       exact uZ<|gv1 hrg<|hQ _ h
      refine wk 16 λh=>?_
      refine cTZ O O ?_
      refine wk 4 λh=>?_
      exact uZ<|gv1 hrg<|hQ _ h
     refine wk 20 λh=>?_
     refine cTZ O O ?_
     refine wk 4 λh=>?_
     exact uZ<|gv1 hrg<|hQ _ h
    refine wk 24 λh=>?_
    refine cTZ O O ?_
    refine wk 4 λh=>?_
    exact uZ<|gv1 hrg<|hQ _ h
   refine wk 3 λh=>?_
   refine cTZ O O ?_
   refine wk 4 λh=>?_
   exact uZ<|gv1 hrg<|hQ _ h
  refine wk 7 λh=>?_
  refine cTZ O O ?_
  refine wk 4 λh=>?_
  exact uZ<|gv1 hrg<|hQ _ h
 refine rZ<|am<|clZ O<|nU h λr20 h=>?_
 refine wk 2 λh=>?_
 refine gfZ h O O (λhb22 h=>?_) (λhb22 h=>?_)
 ·refine wk 2 λh=>?_
  refine am<|clZ O<|wb h λr21 h=>?_
  refine wk 4 λh=>?_
  refine gfZ h O O (λhb23 h=>?_) (λhb23 h=>?_)
  ·exact wk 9999 trivial
  exact wk 9999 trivial
 exact wk 9999 trivial
end Go.Proofs.YtcmagbhiioheeaaGreatDoor
