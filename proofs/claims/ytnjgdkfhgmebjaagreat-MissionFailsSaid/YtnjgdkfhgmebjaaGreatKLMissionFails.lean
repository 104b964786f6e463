/- Walks of functions. Conditions: none. -/
import Derived.Test.YtnjgdkfhgmebjaaGreatWa
import Derived.Test.YtnjgdkfhgmebjaaGreatGgTy
import Derived.Test.YtnjgdkfhgmebjaaGreatK1
import Derived.Test.YtnjgdkfhgmebjaaGreatK4
import Derived.Test.YtnjgdkfhgmebjaaGreatK3
namespace Go.Proofs.YtnjgdkfhgmebjaaGreat
open Go.Gg
set_option maxRecDepth 100000
variable {S:St} {R:AV->St->Prop}
theorem nL {m:GMission} {i:Int} {Q:Bool->Prop} (h:j0 m i Q) (hQ:∀r1,Q r1->R (AV.bool r1) S) :
  Ctr Tryz.prog 6 [au m,iZ i] S R:=by
 refine aC Tryz.func6 rfl Tryz.ntmps6 Tryz.results6 krZ (λrg hrg=>?_)
 refine qZ<|rZ<|wZ rg<|bA (v:=au m) O O (kk:=2) O dZ (λg1=>asZ (.bool false) O<|nZ<|qZ<|jgZ (γ:=Nat) h (λy=>aW [(1,iZ i),(2,.ptr rg 2 y.2 0 0),(22,.bool y.1)]) (λy=>stL S rg [(2,.arr 2 [au m],y.2)]) (λy h=>?_) (λ_ h=>?_))
 ·obtain ⟨x,g2⟩:=y
  refine cZ h O (λhb h=>?_) (λhb h=>?_)
  ·exact qZ<|rZ<|wZ rg<|clZ O<|n9 h λr h=>asZ (.bool r) O<|nZ<|uZ<|gv1 hrg<|hQ _ h
  refine kZ<|qZ<|rZ<|wZ rg<|aq (aZ 2 O) d7 dZ fj O O (v:=au m) O<|wZ rg<|clZ O<|ge h λr1 r2 h=>mvZ (.tuple [aj r1,aU 82 r2]) O<|wZ rg<|am (v:=aj r1) O O O<|wZ rg<|am (v:=aU 82 r2) O O O<|wZ rg<|aR bC de (kk:=3) O (λg3=>wZ rg<|ar (aZ 5 O) aO dZ O (w:=aj r1) O O O (v:=aj r1) O aL<|asZ (aU 82 r2) O<|nZ<|qZ<|rZ<|wZ rg<|aq (aZ 2 O) d7 dZ fj O O (v:=au m) O<|mvZ (iZ i) O<|wZ rg<|clZ O<|rc h λr3 r4 h=>mvZ (.tuple [aj r3,aU 82 r4]) O<|wZ rg<|am (v:=aj r3) O O O<|wZ rg<|am (v:=aU 82 r4) O O O<|wZ rg<|aR bC de (kk:=3) O (λg4=>wZ rg<|ar (aZ 7 O) aO dZ O (w:=aj r3) O O O (v:=aj r3) O aL<|asZ (aU 82 r4) O<|nZ<|qZ<|rZ<|wZ rg<|aq (aZ 2 O) d7 dZ fj O O (v:=au m) O<|wZ rg<|clZ O<|ke h λone h=>asZ (iZ one) O<|nZ<|qZ<|rZ<|mvZ (iZ one) O<|asZ (iZ one) O<|nZ<|jgZ (γ:=Nat×Nat×Nat) h (λy=>aW [(1,iZ i),(2,.ptr rg 2 y.2.1 0 0),(5,.ptr rg 5 y.2.2.1 0 0),(6,aU 82 r2),(7,.ptr rg 7 y.2.2.2 0 0),(8,aU 82 r4),(9,iZ y.1.1),(10,iZ y.1.2)]) (λy=>stL S rg [(2,.arr 2 [au m],y.2.1),(5,.arr 3 [aj r1],y.2.2.1),(7,.arr 3 [aj r3],y.2.2.2)]) (λy h=>?_) (λ_ h=>?_)))
  ·obtain ⟨⟨one1,two⟩,⟨g5,g6,g7⟩⟩:=y
   refine qZ<|qZ<|rZ<|mvZ (aU 82 r2) O<|wZ rg<|clZ O<|rJ h λr5 h=>mvZ (iZ one1) O<|wZ rg<|e7 O O<|mvZ (.bool<|r5 != one1) O<|gfZ h O O (λhb1 h=>?_) (λhb1 h=>?_)
   ·refine mvZ (aU 82 r4) O<|gTZ O O hb1<|wZ rg<|clZ O<|rJ h λr6 h=>gTZ O O hb1<|mvZ (iZ two) O<|gTZ O O hb1<|wZ rg<|e7 O O<|wZ rg<|bb O hb1 (v:=.bool (r6 != two)) O<|nZ<|cZ h O (λhb2 h=>?_) (λhb2 h=>?_)
    ·exact qZ<|rZ<|asZ (.bool false) O<|nZ<|uZ<|gv1 hrg<|hQ _ h
    refine kZ<|qZ<|rZ<|wZ rg<|bv lT bC jh iU aO (ps:=[]) O O (v:=.agg [.bool false,.nil,.nil]) O<|wZ rg<|bv lT bC jh iU aO (ps:=[]) O O (v:=.agg [.bool false,.nil,.nil]) O<|wZ rg<|aR bC de (kk:=3) O (λg8=>wZ rg<|aR bC de (kk:=3) O (λg9=>wZ rg<|ar (aZ 11 O) aO dZ O (w:=.agg [.bool false,.nil,.nil]) O O O (v:=.agg [.bool false,.nil,.nil]) O aL<|wZ rg<|ar (aZ 12 O) aO dZ O (w:=.agg [.bool false,.nil,.nil]) O O O (v:=.agg [.bool false,.nil,.nil]) O aL<|nZ<|jgZ (γ:=Nat×Nat×Nat×Nat×Nat) h (λy=>aW [(1,iZ i),(2,.ptr rg 2 y.2.1 0 0),(5,.ptr rg 5 y.2.2.1 0 0),(7,.ptr rg 7 y.2.2.2.1 0 0),(10,iZ two),(11,.ptr rg 11 y.2.2.2.2.1 0 0),(12,.ptr rg 12 y.2.2.2.2.2 0 0)]) (λy=>stL S rg [(2,.arr 2 [au m],y.2.1),(5,.arr 3 [aj r1],y.2.2.1),(7,.arr 3 [aj r3],y.2.2.2.1),(11,.arr 3 [aj y.1],y.2.2.2.2.1),(12,.arr 3 [.agg [.bool false,.nil,.nil]],y.2.2.2.2.2)]) (λy h=>?_) (λ_ h=>?_)))
    ·obtain ⟨x1,⟨g10,g11,g12,g13,g14⟩⟩:=y
     refine jgZ (γ:=Nat×Nat×Nat×Nat) h (λy=>aW [(5,.ptr rg 5 y.2.1 0 0),(7,.ptr rg 7 y.2.2.1 0 0),(11,.ptr rg 11 y.2.2.2.1 0 0),(12,.ptr rg 12 y.2.2.2.2 0 0)]) (λy=>stL S rg [(5,.arr 3 [aj r1],y.2.1),(7,.arr 3 [aj r3],y.2.2.1),(11,.arr 3 [aj x1],y.2.2.2.1),(12,.arr 3 [aj y.1],y.2.2.2.2)]) (λy h=>?_) (λ_ h=>?_)
     ·obtain ⟨x2,⟨g15,g16,g17,g18⟩⟩:=y
      refine qZ<|rZ<|wZ rg<|aq (aZ 5 O) aO dZ bz O O (v:=aj r1) O<|wZ rg<|aq (aZ 11 O) aO dZ bz O O (v:=aj x1) O<|wZ rg<|clZ O<|ji h λr7 h=>mvZ (.bool r7) O<|gtZ h O O (λhb3 h=>?_) (λhb3 h=>?_)
      ·exact wZ rg<|aq (aZ 7 O) aO dZ bz O O (v:=aj r3) O<|gTZ O O hb3<|wZ rg<|aq (aZ 12 O) aO dZ bz O O (v:=aj x2) O<|gTZ O O hb3<|wZ rg<|clZ O<|ji h λr8 h=>wZ rg<|be O hb3 (v:=.bool r8) O<|asZ (.bool r8) O<|nZ<|uZ<|gv1 hrg<|hQ _ h
      exact gFZ O O hb3 O<|gFZ O O hb3 O<|wZ rg<|bb O hb3 (v:=.bool false) O<|asZ (.bool false) O<|nZ<|uZ<|gv1 hrg<|hQ _ h
     refine qZ<|rZ<|mvZ (iZ two) O<|wZ rg<|bt O O<|nZ<|cZ h O (λhb4 h=>?_) (λhb4 h=>?_)
     ·obtain ⟨r9,hc,h⟩:=h
      obtain ⟨r10,hc1,h⟩:=h
      obtain ⟨r11,hc2,h⟩:=h
      exact Vc.drawn' bD rg (fh [(3,pc (au r9)),(4,pc (aj r10)),(5,pc (aj r11))]) krZ<|dL (E:=([(rg,11)],[])) O O (by simp) (cfn) (aq (aZ 11 O) aO dZ bz O O (v:=aj x1) O<|dL (E:=([(rg,2)],[])) O O (by simp) (cfa (by simp [aK])<|cfn) (aq (aZ 2 O) d7 dZ fj O O (v:=au m) O<|dP O O<|ay (v:=iZ i) O<|dC (vs:=[au m,iZ i]) O (vZ<|vZ<|vn) (λ_=>tu hc (λ_ hr=>⟨by rw [hr],rfl⟩)) O<|dC (vs:=[au r9]) O (vZ<|vn) (λ_=>nV hc1 (λ_ hr=>⟨by rw [hr],rfl⟩)) O<|dC (vs:=[aj x1,aj r10]) O (vZ<|vZ<|vn) (λ_=>mH hc2 (λ_ hr=>⟨by rw [hr],rfl⟩)) O<|dL (E:=([],[(rg,12)])) O O (by simp) (cfo krZ<|cfo krZ<|cfn) (ar (aZ 12 O) aO dZ O (w:=aj r11) O O O (v:=aj r11) O aL<|dN<|⟨(r11,(g11,g12,g13,g14)),(canon (fZ<|fZ<|fZ<|fZ<|fn)<|sc O<|sc O<|sc O<|sc O<|sn),h⟩)))
     exact kZ<|⟨((⟨false,[],[]⟩:GRat),(g11,g12,g13,g14)),(EWk.trans (EWk.ow (k:=12) (o':=.arr 3 [aj (⟨false,[],[]⟩:GRat)]) O<|OW.one<|VWL.vwc<|vZ<|vl' (VW.nilL)<|vl' (VW.nilL)<|vn)<|canon (fZ<|fZ<|fZ<|fZ<|fn)<|sc O<|sc O<|sc O<|sc O<|sn),h⟩
    refine qZ<|rZ<|mvZ (iZ one1) O<|wZ rg<|bt O O<|nZ<|cZ h O (λhb5 h=>?_) (λhb5 h=>?_)
    ·exact rZ<|wZ rg<|aq (aZ 2 O) d7 dZ fj O O (v:=au m) O<|wZ rg<|clZ O<|nV h λr12 h=>wZ rg<|ar (aZ 11 O) aO dZ O (w:=aj r12) O O O (v:=aj r12) O aL<|nZ<|⟨(r12,(g5,g6,g7,g8,g9)),(canon (fZ<|fZ<|fZ<|fZ<|fZ<|fZ<|fZ<|fn)<|sc O<|sc O<|sc O<|sc O<|sc O<|sn),h⟩
    exact kZ<|⟨((⟨false,[],[]⟩:GRat),(g5,g6,g7,g8,g9)),(EWk.trans (EWk.ow (k:=11) (o':=.arr 3 [aj (⟨false,[],[]⟩:GRat)]) O<|OW.one<|VWL.vwc<|vZ<|vl' (VW.nilL)<|vl' (VW.nilL)<|vn)<|canon (fZ<|fZ<|fZ<|fZ<|fZ<|fZ<|fZ<|fn)<|sc O<|sc O<|sc O<|sc O<|sc O<|sn),h⟩
   exact gFZ O O hb1 O<|gFZ O O hb1 O<|gFZ O O hb1 O<|wZ rg<|be O hb1 (v:=.bool true) O<|nZ<|cTZ O O<|qZ<|rZ<|asZ (.bool false) O<|nZ<|uZ<|gv1 hrg<|hQ _ h
  refine qZ<|rZ<|mvZ (iZ one) O<|wZ rg<|bt O O<|nZ<|cZ h O (λhb6 h=>?_) (λhb6 h=>?_)
  ·refine qZ<|rZ<|wZ rg<|aq (aZ 2 O) d7 dZ fj O O (v:=au m) O<|wZ rg<|clZ O<|rk h λone2 h=>asZ (iZ one2) O<|nZ<|qZ<|rZ<|mvZ (iZ one2) O<|asZ (iZ one2) O<|nZ<|qZ<|rZ<|mvZ (iZ i) O<|wZ rg<|a9 O O<|mvZ (.bool<|decide<|i<0) O<|gfZ h O O (λhb7 h=>?_) (λhb7 h=>?_)
   ·refine mvZ (iZ i) O<|gTZ O O hb7<|wZ rg<|aq (aZ 2 O) d7 dZ fj O O (v:=au m) O<|gTZ O O hb7<|wZ rg<|clZ O<|cV h λr13 h=>gTZ O O hb7<|wZ rg<|eO O O<|wZ rg<|bb O hb7 (v:=.bool (decide<|r13<=i)) O (nZ<|cZ h O (λhb8 h=>?_) (λhb8 h=>?_))
    ·exact rZ<|asZ (iZ 10) O<|nZ<|⟨((one2,10),(g2,g3,g4)),(canon (fZ<|fZ<|fZ<|fZ<|fZ<|fZ<|fZ<|fZ<|fn)<|sc O<|sc O<|sc O<|sn),h⟩
    exact kZ<|⟨((one2,one2),(g2,g3,g4)),(canon (fZ<|fZ<|fZ<|fZ<|fZ<|fZ<|fZ<|fZ<|fn)<|sc O<|sc O<|sc O<|sn),h⟩
   exact gFZ O O hb7 O<|gFZ O O hb7 O<|gFZ O O hb7 O<|wZ rg<|be O hb7 (v:=.bool true) O<|nZ<|cTZ O O<|rZ<|asZ (iZ 10) O<|nZ<|⟨((one2,10),(g2,g3,g4)),(canon (fZ<|fZ<|fZ<|fZ<|fZ<|fZ<|fZ<|fZ<|fn)<|sc O<|sc O<|sc O<|sn),h⟩
  exact kZ<|⟨((one,one),(g2,g3,g4)),(canon (fZ<|fZ<|fZ<|fZ<|fZ<|fZ<|fZ<|fZ<|fn)<|sc O<|sc O<|sc O<|sn),h⟩
 refine rZ<|wZ rg<|clZ O<|n9 h λr14 h=>wZ rg<|i7 O<|mvZ (.bool<|!r14) O<|gfZ h O O (λhb9 h=>?_) (λhb9 h=>?_)
 ·refine wZ rg<|aq (aZ 2 O) d7 dZ fj O O (v:=au m) O<|gTZ O O hb9<|wZ rg<|clZ O<|tM h λr15 h=>wZ rg<|bb O hb9 (v:=.bool r15) O<|mvZ (.bool r15) O<|gfZ h O O (λhb10 h=>?_) (λhb10 h=>?_)
  ·exact wZ rg<|aq (aZ 2 O) d7 dZ fj O O (v:=au m) O<|gTZ O O hb10<|wZ rg<|clZ O<|uV h λr16 h=>wZ rg<|bb O hb10 (v:=.bool r16) O<|nZ<|⟨(r16,g1),(canon (fZ<|fZ<|fZ<|fn)<|sc O<|sn),h⟩
  exact gFZ O O hb10 O<|wZ rg<|be O hb10 (v:=.bool true) O<|nZ<|⟨(true,g1),(canon (fZ<|fZ<|fZ<|fn)<|sc O<|sn),h⟩
 exact gFZ O O hb9 O<|wZ rg<|be O hb9 (v:=.bool true) O<|mvZ (.bool true) O<|gFZ O O O O<|gFZ O O O O<|wZ rg<|be O O (v:=.bool true) O<|nZ<|⟨(true,g1),(canon (fZ<|fZ<|fZ<|fn)<|sc O<|sn),h⟩
end Go.Proofs.YtnjgdkfhgmebjaaGreat
