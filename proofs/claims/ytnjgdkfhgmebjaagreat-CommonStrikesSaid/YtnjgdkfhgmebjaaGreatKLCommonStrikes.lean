/- Walks of functions. Conditions: none. -/
import Derived.Test.YtnjgdkfhgmebjaaGreatWa
import Derived.Test.YtnjgdkfhgmebjaaGreatGgTy
import Derived.Test.YtnjgdkfhgmebjaaGreatK1
import Derived.Test.YtnjgdkfhgmebjaaGreatK2
import Derived.Test.YtnjgdkfhgmebjaaGreatK3
namespace Go.Proofs.YtnjgdkfhgmebjaaGreat
open Go.Gg
set_option maxRecDepth 100000
variable {S:St} {R:AV->St->Prop}
theorem jS {f:GFormula} {x:GCauses} {set:Int} {Q:Bool->Prop} (h:gq f x set Q) (hQ:∀r1,Q r1->R (AV.bool r1) S) :
  Ctr Tryz.prog 4 [aA f,lB x,iZ set] S R:=by
 refine aL Tryz.func4 rfl Tryz.ntmps4 Tryz.results4 krZ (λrg hrg=>?_)
 refine af<|wZ rg<|bp (v:=aA f) O O (kk:=3) O dZ (λg1=>wZ rg<|bp (v:=lB x) O O (kk:=2) O dZ (λg2=>asZ (.bool false) O<|nZ<|qZ<|jgZ (γ:=Nat×Nat) h (λy=>aQ [(2,iZ set),(3,.ptr rg 3 y.2.1 0 0),(4,.ptr rg 4 y.2.2 0 0),(32,.bool y.1)]) (λy=>stL S rg [(3,.arr 3 [aA f],y.2.1),(4,.arr 2 [lB x],y.2.2)]) (λy h=>?_) (λ_ h=>?_)))
 ·obtain⟨x1,⟨g3,g4⟩⟩:=y
  refine cZ h O (λhb h=>?_) (λhb h=>?_)
  ·exact af<|aa<|clZ O<|kx h λr h=>asZ (.bool r) O<|aD<|gv1 hrg<|hQ _ h
  refine kZ<|af<|aa<|am (aZ 3 O) e7 dZ jc O O (v:=aA f) O<|aa<|aP r_ O<|aa<|ag (aZ 4 O) l_ n3 O O (v:=eL ac x.P) O<|aa<|aP rY O<|aa<|ag (aZ 4 O) wC yH O O (v:=eL ak x.Groups) O<|aa<|clZ O<|nf h λr1 r2 r3 h=>mvZ (.tuple [aA r1,eL ac r2,bc 82 r3]) O<|aa<|ah (v:=aA r1) O O O<|aa<|ah (v:=eL ac r2) O O O<|aa<|ah (v:=bc 82 r3) O O O<|wZ rg<|aX oW zi (kk:=3) O (λg5=>aa<|au (aZ 7 O) e7 dZ O (w:=aA r1) O O O (v:=aA r1) O aY<|asZ (eL ac r2) O<|asZ (bc 82 r3) O<|nZ<|qZ<|af<|mvZ (bc 82 r3) O<|aa<|fY je (E:=82) O O O<|nZ<|cZ h O (λhb1 h=>?_) (λhb1 h=>?_))
  ·exact af<|mvZ (eL ac r2) O<|aa<|aG cm O<|aa<|br O O<|asZ (.bool<|(r2.length:Int) == 0) O<|aD<|gv1 hrg<|hQ _ h
  refine kZ<|qZ<|af<|aa<|am (aZ 7 O) e7 dZ jc O O (v:=aA r1) O<|aa<|clZ O<|gd h λr4 h=>aa<|fY je (E:=82) O O O<|mvZ (.bool<|Option.isSome r4) O<|gfZ h O O (λhb2 h=>?_) (λhb2 h=>?_)
  ·refine mvZ (eL ac r2) O<|gTZ O O hb2<|aa<|aG cm O<|gTZ O O hb2<|aa<|aP cH O<|gTZ O O hb2<|aa<|ag (aZ 7 O) sz3 ag3 O O (v:=iZ r1.Vars) O<|gTZ O O hb2<|aa<|dn O O<|aa<|aJ O hb2 (v:=.bool ((r2.length:Int) != r1.Vars)) O (mvZ (.bool<|(r2.length:Int) != r1.Vars) O<|gfZ h O O (λhb3 h=>?_) (λhb3 h=>?_))
   ·refine aa<|aP cH O<|gTZ O O hb3<|aa<|ag (aZ 7 O) sz3 ag3 O O (v:=iZ r1.Vars) O<|gTZ O O hb3<|aa<|aP cH O<|gTZ O O hb3<|aa<|ag (aZ 3 O) sz3 ag3 O O (v:=iZ f.Vars) O<|gTZ O O hb3<|aa<|a9 O O<|aa<|aJ O hb3 (v:=.bool (decide<|r1.Vars<f.Vars)) O (mvZ (.bool<|decide<|r1.Vars<f.Vars) O<|gfZ h O O (λhb4 h=>?_) (λhb4 h=>?_))
    ·refine aa<|am (aZ 3 O) e7 dZ jc O O (v:=aA f) O<|gTZ O O hb4<|aa<|aP r_ O<|gTZ O O hb4<|aa<|ag (aZ 4 O) l_ n3 O O (v:=eL ac x.P) O<|gTZ O O hb4<|aa<|aP rY O<|gTZ O O hb4<|aa<|ag (aZ 4 O) wC yH O O (v:=eL ak x.Groups) O<|gTZ O O hb4<|aa<|clZ O<|oA h λr5 h=>gTZ O O hb4<|aa<|dn O O<|aa<|aJ O hb4 (v:=.bool (r5 != 0)) O<|nZ<|cZ h O (λhb5 h=>?_) (λhb5 h=>?_)
     ·exact af<|asZ (.bool false) O<|aD<|gv1 hrg<|hQ _ h
     refine kZ<|af<|mvZ (iZ set) O<|aa<|aP cH O<|aa<|ag (aZ 7 O) sz3 ag3 O O (v:=iZ r1.Vars) O<|tkZ h (λhg h=>aa<|mg O O hg<|tkZ h (λhg1 h=>aa<|bo O O hg1<|aa<|mT O O<|stZ h (λset1 hs h=>wZ rg<|aB (v:=iZ set1) (by subst hs;rfl)<|aU<|aa<|am (aZ 7 O) e7 dZ jc O O (v:=aA r1) O<|mvZ (iZ set1) O<|aa<|clZ O<|jm h λr6 r7 h=>mvZ (.tuple [.bool r6,bc 82 r7]) O<|aa<|ah (v:=.bool r6) O O O<|aa<|ah (v:=bc 82 r7) O O O<|asZ (.bool r6) O<|asZ (bc 82 r7) O<|nZ<|qZ ?_)))
     obtain⟨r8,hc,h⟩:=h
     obtain⟨r9,r10,hc1,h⟩:=h
     refine Vc.drawn' bz rg (eZ [(7,pc (iZ r8)),(8,pc (.tuple [.bool r9,bc 82 r10]))]) krZ (dL (E:=([(rg,3)],[])) O O (by simp) (cfn) (am (aZ 3 O) e7 dZ jc O O (v:=aA f) O<|dL (E:=([(rg,3)],[])) O O (by simp) (cfa (by simp[aS])<|cfn) (am (aZ 3 O) e7 dZ jc O O (v:=aA f) O<|dP O O<|aP r_ O<|dL (E:=([(rg,4)],[])) O O (by simp) (cfa (by simp[aS])<|cfa (by simp[aS])<|cfn) (ag (aZ 4 O) l_ n3 O O (v:=eL ac x.P) O<|dP O O<|aP rY O<|dL (E:=([(rg,4)],[])) O O (by simp) (cfa (by simp[aS])<|cfa (by simp[aS])<|cfa (by simp[aS])<|cfn) (ag (aZ 4 O) wC yH O O (v:=eL ak x.Groups) O<|dP O O<|az (v:=iZ set1) O<|dC (vs:=[aA f,eL ac x.P,eL ak x.Groups,iZ set1]) O (vZ<|vZ<|vZ<|vZ<|vn) (λ_=>nD hc (λ_ hr=>⟨by rw[hr],rfl⟩)) O<|dC (vs:=[aA f,iZ r8]) O (vZ<|vZ<|vn) (λ_=>jm hc1 (λ_ _ hr=>⟨by rw[hr.1,hr.2],rfl⟩)) O<|dP O O<|az (v:=.tuple [.bool r9,bc 82 r10]) O<|dP O O<|ah (v:=.bool r9) O O O<|dP O O<|ah (v:=bc 82 r10) O O O<|dP O O<|aB (v:=.bool r9) O<|dP O O<|aB (v:=bc 82 r10) O<|dN<|af<|mvZ (bc 82 r7) O<|aa<|f8 je (E:=82) O O O<|mvZ (.bool<|Option.isNone r7) O<|gtZ h O O (λhb6 h=>?_) (λhb6 h=>?_))))))
     ·refine mvZ (bc 82 r10) O<|gTZ O O hb6<|aa<|f8 je (E:=82) O O O<|aa<|aI O hb6 (v:=.bool (Option.isNone r10)) O<|mvZ (.bool<|Option.isNone r10) O<|gtZ h O O (λhb7 h=>?_) (λhb7 h=>?_)
      ·exact mvZ (.bool r6) O<|gTZ O O hb7<|mvZ (.bool r9) O<|gTZ O O hb7<|aa<|rQ td4 O O<|aa<|aI O hb7 (v:=.bool (r6 == r9)) O<|asZ (.bool<|r6 == r9) O<|aD<|gv1 hrg<|hQ _ h
      exact gFZ O O hb7 O<|gFZ O O hb7 O<|aa<|aJ O hb7 (v:=.bool false) O<|asZ (.bool false) O<|aD<|gv1 hrg<|hQ _ h
     exact gFZ O O hb6 O<|aa<|aJ O hb6 (v:=.bool false) O<|mvZ (.bool false) O<|gFZ O O O O<|gFZ O O O O<|gFZ O O O O<|aa<|aJ O O (v:=.bool false) O<|asZ (.bool false) O<|aD<|gv1 hrg<|hQ _ h
    exact gFZ O O hb4 O<|gFZ O O hb4 O<|gFZ O O hb4 O<|gFZ O O hb4 O<|gFZ O O hb4 O<|gFZ O O hb4 O<|aa<|aI O hb4 (v:=.bool true) O<|nZ<|cTZ O O<|af<|asZ (.bool false) O<|aD<|gv1 hrg<|hQ _ h
   exact gFZ O O hb3 O<|gFZ O O hb3 O<|gFZ O O hb3 O<|gFZ O O hb3 O<|aa<|aI O hb3 (v:=.bool true) O<|mvZ (.bool true) O<|gFZ O O O O<|gFZ O O O O<|gFZ O O O O<|gFZ O O O O<|gFZ O O O O<|gFZ O O O O<|gFZ O O O O<|aa<|aI O O (v:=.bool true) O<|nZ<|cTZ O O<|af<|asZ (.bool false) O<|aD<|gv1 hrg<|hQ _ h
  exact gFZ O O hb2 O<|gFZ O O hb2 O<|gFZ O O hb2 O<|gFZ O O hb2 O<|aa<|aI O hb2 (v:=.bool true) O<|mvZ (.bool true) O<|gFZ O O O O<|gFZ O O O O<|gFZ O O O O<|gFZ O O O O<|gFZ O O O O<|aa<|aI O O (v:=.bool true) O<|mvZ (.bool true) O<|gFZ O O O O<|gFZ O O O O<|gFZ O O O O<|gFZ O O O O<|gFZ O O O O<|gFZ O O O O<|gFZ O O O O<|aa<|aI O O (v:=.bool true) O<|nZ<|cTZ O O<|af<|asZ (.bool false) O<|aD<|gv1 hrg<|hQ _ h
 refine rZ<|aa<|clZ O<|kx h λr11 h=>aa<|c9 O<|mvZ (.bool<|!r11) O<|gfZ h O O (λhb8 h=>?_) (λhb8 h=>?_)
 ·refine aa<|am (aZ 3 O) e7 dZ jc O O (v:=aA f) O<|gTZ O O hb8<|aa<|clZ O<|oL h λr12 h=>gTZ O O hb8<|aa<|c9 O<|aa<|aJ O hb8 (v:=.bool (!r12)) O<|mvZ (.bool<|!r12) O<|gfZ h O O (λhb9 h=>?_) (λhb9 h=>?_)
  ·refine aa<|aP r_ O<|gTZ O O hb9<|aa<|ag (aZ 4 O) l_ n3 O O (v:=eL ac x.P) O<|gTZ O O hb9<|aa<|clZ O<|kw h λr13 h=>gTZ O O hb9<|aa<|c9 O<|aa<|aJ O hb9 (v:=.bool (!r13)) O<|mvZ (.bool<|!r13) O<|gfZ h O O (λhb10 h=>?_) (λhb10 h=>?_)
   ·exact aa<|aP rY O<|gTZ O O hb10<|aa<|ag (aZ 4 O) wC yH O O (v:=eL ak x.Groups) O<|gTZ O O hb10<|aa<|clZ O<|oJ h λr14 h=>gTZ O O hb10<|aa<|c9 O<|aa<|aJ O hb10 (v:=.bool (!r14)) O<|nZ<|⟨((!r14),(g1,g2)),(ap (aE<|fn)<|sc O<|sc O<|sn),h⟩
   exact gFZ O O hb10 O<|gFZ O O hb10 O<|gFZ O O hb10 O<|aa<|aI O hb10 (v:=.bool true) O<|nZ<|⟨(true,(g1,g2)),(ap (aE<|fn)<|sc O<|sc O<|sn),h⟩
  exact gFZ O O hb9 O<|gFZ O O hb9 O<|gFZ O O hb9 O<|aa<|aI O hb9 (v:=.bool true) O<|mvZ (.bool true) O<|gFZ O O O O<|gFZ O O O O<|gFZ O O O O<|gFZ O O O O<|aa<|aI O O (v:=.bool true) O<|nZ<|⟨(true,(g1,g2)),(ap (aE<|fn)<|sc O<|sc O<|sn),h⟩
 exact gFZ O O hb8 O<|gFZ O O hb8 O<|aa<|aI O hb8 (v:=.bool true) O<|mvZ (.bool true) O<|gFZ O O O O<|gFZ O O O O<|gFZ O O O O<|gFZ O O O O<|aa<|aI O O (v:=.bool true) O<|mvZ (.bool true) O<|gFZ O O O O<|gFZ O O O O<|gFZ O O O O<|gFZ O O O O<|aa<|aI O O (v:=.bool true) O<|nZ<|⟨(true,(g1,g2)),(ap (aE<|fn)<|sc O<|sc O<|sn),h⟩
end Go.Proofs.YtnjgdkfhgmebjaaGreat
