/- Walks of functions. Conditions: none. -/
import Derived.Test.YtnjgdkfhgmebjaaGreatWa
import Derived.Test.YtnjgdkfhgmebjaaGreatGgTy
import Derived.Test.YtnjgdkfhgmebjaaGreatK1
import Derived.Test.YtnjgdkfhgmebjaaGreatK2
import Derived.Test.YtnjgdkfhgmebjaaGreatK3
namespace Go.Proofs.YtnjgdkfhgmebjaaGreat
open Go.Gg
set_option maxRecDepth 100000
variable {S:St} {R:AV->St->Prop}
theorem jF {f:GFormula} {x:GCauses} {Q:Bool->Prop} (h:gb f x Q) (hQ:∀r1,Q r1->R (AV.bool r1) S) :
  Ctr Tryz.prog 3 [ay f,lj x] S R:=by
 refine aK Tryz.func3 rfl Tryz.ntmps3 Tryz.results3 krZ (λrg hrg=>?_)
 refine af<|wZ rg<|bs (v:=ay f) O O (kk:=3) O dZ (λg1=>wZ rg<|bs (v:=lj x) O O (kk:=2) O dZ (λg2=>asZ (.bool false) O<|nZ<|qZ<|jgZ (γ:=Nat×Nat) h (λy=>aQ [(2,.ptr rg 2 y.2.1 0 0),(3,.ptr rg 3 y.2.2 0 0),(29,.bool y.1)]) (λy=>stL S rg [(2,.arr 3 [ay f],y.2.1),(3,.arr 2 [lj x],y.2.2)]) (λy h=>?_) (λ_ h=>?_)))
 ·obtain⟨x1,⟨g3,g4⟩⟩:=y
  refine cZ h O (λhb h=>?_) (λhb h=>?_)
  ·exact af<|aa<|clZ O<|j7 h λr h=>asZ (.bool r) O<|aC<|gv1 hrg<|hQ _ h
  refine kZ<|af<|aa<|am (aZ 2 O) dI dZ i2 O O (v:=ay f) O<|aa<|aL tG O<|aa<|ag (aZ 3 O) mg oA O O (v:=eL ac x.P) O<|aa<|aL tF O<|aa<|ag (aZ 3 O) wW yz O O (v:=eL ak x.Groups) O<|aa<|clZ O<|mT h λr1 r2 r3 h=>mvZ (.tuple [ay r1,eL ac r2,bi 82 r3]) O<|aa<|ah (v:=ay r1) O O O<|aa<|ah (v:=eL ac r2) O O O<|aa<|ah (v:=bi 82 r3) O O O<|wZ rg<|aU jy uD (kk:=3) O (λg5=>aa<|ap (aZ 5 O) dI dZ O (w:=ay r1) O O O (v:=ay r1) O aT<|asZ (eL ac r2) O<|asZ (bi 82 r3) O<|aW<|aa<|am (aZ 2 O) dI dZ i2 O O (v:=ay f) O<|aa<|aL tG O<|aa<|ag (aZ 3 O) mg oA O O (v:=eL ac x.P) O<|aa<|aL tF O<|aa<|ag (aZ 3 O) wW yz O O (v:=eL ak x.Groups) O<|aa<|clZ O<|nc h λr4 r5 r6 h=>mvZ (.tuple [ay r4,eL ac r5,iZ r6]) O<|aa<|ah (v:=ay r4) O O O<|aa<|ah (v:=eL ac r5) O O O<|aa<|ah (v:=iZ r6) O O O<|wZ rg<|aU jy uD (kk:=3) O (λg6=>aa<|ap (aZ 8 O) dI dZ O (w:=ay r4) O O O (v:=ay r4) O aT<|asZ (eL ac r5) O<|asZ (iZ r6) O<|aW<|mvZ (bi 82 r3) O<|aa<|clZ O<|rv h λr7 h=>mvZ (iZ r6) O<|aa<|bJ O O<|mvZ (.bool<|r7 == r6) O ?_))
  refine gtZ h O O (λhb1 h=>?_) (λhb1 h=>?_)
  ·refine aa<|am (aZ 5 O) dI dZ i2 O O (v:=ay r1) O<|gTZ O O hb1<|aa<|am (aZ 8 O) dI dZ i2 O O (v:=ay r4) O<|gTZ O O hb1<|aa<|clZ O<|nF h λr8 h=>aa<|aH O hb1 (v:=.bool r8) O<|mvZ (.bool r8) O<|gtZ h O O (λhb2 h=>?_) (λhb2 h=>?_)
   ·exact mvZ (eL ac r2) O<|gTZ O O hb2<|mvZ (eL ac r5) O<|gTZ O O hb2<|aa<|clZ O<|lO h λr9 h=>aa<|aH O hb2 (v:=.bool r9) O<|asZ (.bool r9) O<|aC<|gv1 hrg<|hQ _ h
   exact gFZ O O hb2 O<|gFZ O O hb2 O<|aa<|aI O hb2 (v:=.bool false) O<|asZ (.bool false) O<|aC<|gv1 hrg<|hQ _ h
  exact gFZ O O hb1 O<|gFZ O O hb1 O<|aa<|aI O hb1 (v:=.bool false) O<|mvZ (.bool false) O<|gFZ O O O O<|gFZ O O O O<|gFZ O O O O<|aa<|aI O O (v:=.bool false) O<|asZ (.bool false) O<|aC<|gv1 hrg<|hQ _ h
 refine rZ<|aa<|clZ O<|j7 h λr10 h=>aa<|db O<|mvZ (.bool<|!r10) O<|gfZ h O O (λhb3 h=>?_) (λhb3 h=>?_)
 ·refine aa<|am (aZ 2 O) dI dZ i2 O O (v:=ay f) O<|gTZ O O hb3<|aa<|clZ O<|ot h λr11 h=>gTZ O O hb3<|aa<|db O<|aa<|aI O hb3 (v:=.bool (!r11)) O<|mvZ (.bool<|!r11) O<|gfZ h O O (λhb4 h=>?_) (λhb4 h=>?_)
  ·refine aa<|aL tG O<|gTZ O O hb4<|aa<|ag (aZ 3 O) mg oA O O (v:=eL ac x.P) O<|gTZ O O hb4<|aa<|clZ O<|j6 h λr12 h=>gTZ O O hb4<|aa<|db O<|aa<|aI O hb4 (v:=.bool (!r12)) O<|mvZ (.bool<|!r12) O<|gfZ h O O (λhb5 h=>?_) (λhb5 h=>?_)
   ·exact aa<|aL tF O<|gTZ O O hb5<|aa<|ag (aZ 3 O) wW yz O O (v:=eL ak x.Groups) O<|gTZ O O hb5<|aa<|clZ O<|oo h λr13 h=>gTZ O O hb5<|aa<|db O<|aa<|aI O hb5 (v:=.bool (!r13)) O<|nZ<|⟨((!r13),(g1,g2)),(an (fZ<|fZ<|fZ<|fn)<|sc O<|sc O<|sn),h⟩
   exact gFZ O O hb5 O<|gFZ O O hb5 O<|gFZ O O hb5 O<|aa<|aH O hb5 (v:=.bool true) O<|nZ<|⟨(true,(g1,g2)),(an (fZ<|fZ<|fZ<|fn)<|sc O<|sc O<|sn),h⟩
  exact gFZ O O hb4 O<|gFZ O O hb4 O<|gFZ O O hb4 O<|aa<|aH O hb4 (v:=.bool true) O<|mvZ (.bool true) O<|gFZ O O O O<|gFZ O O O O<|gFZ O O O O<|gFZ O O O O<|aa<|aH O O (v:=.bool true) O<|nZ<|⟨(true,(g1,g2)),(an (fZ<|fZ<|fZ<|fn)<|sc O<|sc O<|sn),h⟩
 exact gFZ O O hb3 O<|gFZ O O hb3 O<|aa<|aH O hb3 (v:=.bool true) O<|mvZ (.bool true) O<|gFZ O O O O<|gFZ O O O O<|gFZ O O O O<|gFZ O O O O<|aa<|aH O O (v:=.bool true) O<|mvZ (.bool true) O<|gFZ O O O O<|gFZ O O O O<|gFZ O O O O<|gFZ O O O O<|aa<|aH O O (v:=.bool true) O<|nZ<|⟨(true,(g1,g2)),(an (fZ<|fZ<|fZ<|fn)<|sc O<|sc O<|sn),h⟩
end Go.Proofs.YtnjgdkfhgmebjaaGreat
