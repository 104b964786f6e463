/- Walks of functions. Conditions: none. -/
import Derived.Test.YtnjgdkfhgmebjaaGreatWa
import Derived.Test.YtnjgdkfhgmebjaaGreatGgTy
namespace Go.Proofs.YtnjgdkfhgmebjaaGreat
open Go.Gg
set_option maxRecDepth 100000
variable {S:St} {R:AV->St->Prop}
theorem kD {kind:Int} {n:Int} {Q:Bool->Prop} (h:ff kind n Q) (hQ:∀r1,Q r1->R (AV.bool r1) S) :
  Ctr Tryz.prog 156 [iZ kind,iZ n] S R:=by
 refine aL Tryz.func156 rfl Tryz.ntmps156 Tryz.results156 krZ (λrg hrg=>?_)
 refine af<|asZ (.bool false) O<|nZ<|qZ<|af<|mvZ (iZ kind) O<|nZ<|bZ<|af<|aa<|br O O<|asZ (.bool<|kind == 0) O<|nZ<|cZ h O (λhb h=>?_) (λhb h=>?_)
 ·exact af<|mvZ (iZ n) O<|aa<|br O O<|asZ (.bool<|n == 0) O<|aD<|gv1 hrg<|hQ _ h
 refine af<|aa<|br O O<|asZ (.bool<|kind == 1) O<|nZ<|cZ h O (λhb1 h=>?_) (λhb1 h=>?_)
 ·exact af<|mvZ (iZ n) O<|aa<|br O O<|asZ (.bool<|n == 1) O<|aD<|gv1 hrg<|hQ _ h
 refine kZ<|af<|mvZ (iZ n) O<|aa<|dI O O<|mvZ (.bool<|decide<|1<=n) O<|gtZ h O O (λhb2 h=>?_) (λhb2 h=>?_)
 ·exact mvZ (iZ n) O<|gTZ O O hb2<|aa<|lR O O<|aa<|aI O hb2 (v:=.bool (decide<|n<=16)) O (asZ (.bool<|decide<|n<=16) O<|aD<|gv1 hrg<|hQ _ h)
 exact gFZ O O hb2 O<|aa<|aJ O hb2 (v:=.bool false) O<|asZ (.bool false) O<|aD<|gv1 hrg<|hQ _ h
theorem kC {f:GFormula} {i:Int} {Q:Option Int->Prop} (h:e_ f i Q) (hQ:∀r1,Q r1->R (bc 82 r1) S) :
  Ctr Tryz.prog 78 [aA f,iZ i] S R:=by
 refine aL Tryz.func78 rfl Tryz.ntmps78 Tryz.results78 krZ (λrg hrg=>?_)
 refine af<|wZ rg<|bp (v:=aA f) O O (kk:=3) O dZ (λg1=>asZ .niface O<|aU<|aa<|aP dj O<|aa<|ag (aZ 2 O) iR kn O O (v:=eL bF f.Nodes) O<|mvZ (iZ i) O<|tkZ h (λhg h=>aa<|aV hY fD dZ (λ_=>O) O O hg<|aa<|bm fD dZ rq O O (v:=bF (at' f.Nodes i)) O<|wZ rg<|aX fw kr (kk:=3) O (λg2=>aa<|au (aZ 5 O) fD dZ O (w:=bF (at' f.Nodes i)) O O O (v:=bF (at' f.Nodes i)) O aY<|nZ<|qZ<|jgZ (γ:=Nat×Nat) h (λy=>aQ [(1,iZ i),(2,.ptr rg 2 y.2.1 0 0),(5,.ptr rg 5 y.2.2 0 0),(20,.bool y.1)]) (λy=>stL S rg [(2,.arr 3 [aA f],y.2.1),(5,.arr 3 [bF (at' f.Nodes i)],y.2.2)]) (λy h=>?_) (λ_ h=>?_))))
 ·obtain⟨x,⟨g3,g4⟩⟩:=y
  refine cZ h O (λhb h=>?_) (λhb h=>?_)
  ·exact af<|aa<|cb (by rw[hO];trivial) (v:=iZ 7) O<|asZ (.iface 82<|iZ 7) O<|aD<|gv1 hrg<|hQ _ h
  refine kZ<|qZ<|af<|aa<|aP jo O<|aa<|ag (aZ 5 O) sz3 ag3 O O (v:=iZ ((at' f.Nodes i).Kind)) O (aa<|aP eU O<|aa<|ag (aZ 5 O) dJ eG O O (v:=bH ((at' f.Nodes i).Args)) O (aa<|aG bA O<|aa<|clZ O<|kD h λr h=>aa<|c9 O<|nZ<|cZ h O (λhb1 h=>?_) (λhb1 h=>?_)))
  ·exact af<|aa<|cb (by rw[hO];trivial) (v:=iZ 11) O<|asZ (.iface 82<|iZ 11) O<|aD<|gv1 hrg<|hQ _ h
  refine kZ<|qZ<|af<|aa<|aP eU O<|aa<|ag (aZ 5 O) dJ eG O O (v:=bH ((at' f.Nodes i).Args)) O (aa<|aG bA O<|mvZ (iZ 0) O<|nZ<|bZ<|lgZ h (g3,g4) (λy=>aQ [(1,iZ i),(2,.ptr rg 2 y.2.1 0 0),(5,.ptr rg 5 y.2.2 0 0),(31,bH ((at' f.Nodes i).Args)),(32,iZ (((at' f.Nodes i).Args).length:Int)),(33,iZ y.1)]) (λy=>stL S rg [(2,.arr 3 [aA f],y.2.1),(5,.arr 3 [bF (at' f.Nodes i)],y.2.2)]) (ap (aE<|fZ<|fZ<|fn)<|sc O<|sc O<|sn) (λy _ h=>?_))
  obtain⟨x1,⟨g5,g6⟩⟩:=y
  refine af<|aa<|a9 O O<|nZ<|qZ<|cZ h O (λhb2 h=>?_) (λhb2 h=>?_)
  ·refine kZ<|qZ<|bZ<|af<|tkZ h (λhg1 h=>aa<|aV bA sz3 dZ (λ_=>O) O O hg1<|aa<|a8 sz3 ag3 O O (v:=iZ (at' ((at' f.Nodes i).Args) x1)) O (asZ (iZ<|at' ((at' f.Nodes i).Args) x1) O<|nZ<|jgZ (γ:=Nat×Nat) h (λy=>aQ [(1,iZ i),(2,.ptr rg 2 y.2.1 0 0),(5,.ptr rg 5 y.2.2 0 0),(31,bH ((at' f.Nodes i).Args)),(32,iZ (((at' f.Nodes i).Args).length:Int)),(33,iZ x1),(46,.bool y.1)]) (λy=>stL S rg [(2,.arr 3 [aA f],y.2.1),(5,.arr 3 [bF (at' f.Nodes i)],y.2.2)]) (λy h=>?_) (λ_ h=>?_)))
   ·obtain⟨x2,⟨g7,g8⟩⟩:=y
    refine cZ h O (λhb3 h=>?_) (λhb3 h=>?_)
    ·exact af<|aa<|cb (by rw[hO];trivial) (v:=iZ 10) O<|asZ (.iface 82<|iZ 10) O<|aD<|gv1 hrg<|hQ _ h
    exact kZ<|rZ<|tkZ h (λhg2 h=>aa<|aF O O hg2<|mvZ (iZ<|x1+1) O<|nZ<|⟨((x1+1),(g7,g8)),(ap (aE<|fZ<|fZ<|fn)<|sc O<|sc O<|sn),h⟩)
   refine rZ<|mvZ (iZ<|at' ((at' f.Nodes i).Args) x1) O<|aa<|a9 O O<|mvZ (.bool<|decide<|(at' ((at' f.Nodes i).Args) x1)<0) O (gfZ h O O (λhb4 h=>?_) (λhb4 h=>?_))
   ·exact mvZ (iZ<|at' ((at' f.Nodes i).Args) x1) O<|gTZ O O hb4<|aa<|aP cH O<|gTZ O O hb4<|aa<|ag (aZ 2 O) sz3 ag3 O O (v:=iZ f.Vars) O<|gTZ O O hb4<|mvZ (iZ i) O<|gTZ O O hb4<|tkZ h (λhg3 h=>aa<|aF O O hg3<|gTZ O O hb4<|aa<|dI O O<|aa<|aJ O hb4 (v:=.bool (decide<|(f.Vars+i)<=(at' ((at' f.Nodes i).Args) x1))) O (nZ<|⟨((decide<|(f.Vars+i)<=(at' ((at' f.Nodes i).Args) x1)),(g5,g6)),(ap (aE<|fZ<|fZ<|fZ<|fn)<|sc O<|sc O<|sn),h⟩))
   exact gFZ O O hb4 O<|gFZ O O hb4 O<|gFZ O O hb4 O<|gFZ O O hb4 O<|gFZ O O hb4 O<|aa<|aI O hb4 (v:=.bool true) O<|nZ<|⟨(true,(g5,g6)),(ap (aE<|fZ<|fZ<|fZ<|fn)<|sc O<|sc O<|sn),h⟩
  refine xsZ<|qZ<|af<|aa<|aP jo O<|aa<|ag (aZ 5 O) sz3 ag3 O O (v:=iZ ((at' f.Nodes i).Kind)) O (nZ<|bZ<|af<|aa<|br O O<|asZ (.bool<|(at' f.Nodes i).Kind == 0) O<|nZ<|cZ h O (λhb5 h=>?_) (λhb5 h=>?_))
  ·refine jnZ h (λy=>aQ [(64,.bool y)]) (λy=>stL S rg []) (λx3 h=>?_) (λ_ h=>?_)
   ·refine cZ h O (λhb6 h=>?_) (λhb6 h=>?_)
    ·exact af<|aa<|cb (by rw[hO];trivial) (v:=iZ 3) O<|asZ (.iface 82<|iZ 3) O<|aD<|gv1 hrg<|hQ _ h
    exact kZ<|af<|asZ .niface O<|aD<|gv1 hrg<|hQ _ h
   refine rZ<|aa<|aP eV O<|aa<|ag (aZ 5 O) sz3 ag3 O O (v:=iZ ((at' f.Nodes i).K)) O (aa<|dn O O<|mvZ (.bool<|(at' f.Nodes i).K != 0) O<|gtZ h O O (λhb7 h=>?_) (λhb7 h=>?_))
   ·exact aa<|aP eV O<|gTZ O O hb7<|aa<|ag (aZ 5 O) sz3 ag3 O O (v:=iZ ((at' f.Nodes i).K)) O (gTZ O O hb7<|aa<|dn O O<|aa<|aI O hb7 (v:=.bool ((at' f.Nodes i).K != 1)) O (nZ<|⟨((at' f.Nodes i).K != 1),(ap (fZ<|fn)<|sn),h⟩))
   exact gFZ O O hb7 O<|gFZ O O hb7 O<|aa<|aJ O hb7 (v:=.bool false) O<|nZ<|⟨false,(ap (fZ<|fn)<|sn),h⟩
  refine af<|aa<|br O O<|asZ (.bool<|(at' f.Nodes i).Kind == 4) O<|nZ<|cZ h O (λhb8 h=>?_) (λhb8 h=>?_)
  ·refine jnZ h (λy=>aQ [(78,.bool y)]) (λy=>stL S rg []) (λx4 h=>?_) (λ_ h=>?_)
   ·refine cZ h O (λhb9 h=>?_) (λhb9 h=>?_)
    ·exact af<|aa<|cb (by rw[hO];trivial) (v:=iZ 3) O<|asZ (.iface 82<|iZ 3) O<|aD<|gv1 hrg<|hQ _ h
    exact kZ<|af<|asZ .niface O<|aD<|gv1 hrg<|hQ _ h
   refine rZ<|aa<|aP eV O<|aa<|ag (aZ 5 O) sz3 ag3 O O (v:=iZ ((at' f.Nodes i).K)) O (aa<|a9 O O<|mvZ (.bool<|decide<|(at' f.Nodes i).K<1) O<|gfZ h O O (λhb10 h=>?_) (λhb10 h=>?_))
   ·exact aa<|aP eV O<|gTZ O O hb10<|aa<|ag (aZ 5 O) sz3 ag3 O O (v:=iZ ((at' f.Nodes i).K)) O (gTZ O O hb10<|aa<|aP eU O<|gTZ O O hb10<|aa<|ag (aZ 5 O) dJ eG O O (v:=bH ((at' f.Nodes i).Args)) O (gTZ O O hb10<|aa<|aG bA O<|gTZ O O hb10<|aa<|dp O O<|aa<|aJ O hb10 (v:=.bool (decide<|(((at' f.Nodes i).Args).length:Int)<(at' f.Nodes i).K)) O (nZ<|⟨(decide<|(((at' f.Nodes i).Args).length:Int)<(at' f.Nodes i).K),(ap (fZ<|fn)<|sn),h⟩)))
   exact gFZ O O hb10 O<|gFZ O O hb10 O<|gFZ O O hb10 O<|gFZ O O hb10 O<|gFZ O O hb10 O<|aa<|aI O hb10 (v:=.bool true) O<|nZ<|⟨true,(ap (fZ<|fn)<|sn),h⟩
  refine af<|aa<|aP eV O<|aa<|ag (aZ 5 O) sz3 ag3 O O (v:=iZ ((at' f.Nodes i).K)) O (aa<|dn O O<|nZ<|cZ h O (λhb11 h=>?_) (λhb11 h=>?_))
  ·exact af<|aa<|cb (by rw[hO];trivial) (v:=iZ 2) O<|asZ (.iface 82<|iZ 2) O<|aD<|gv1 hrg<|hQ _ h
  exact kZ<|af<|asZ .niface O<|aD<|gv1 hrg<|hQ _ h
 refine rZ<|aa<|aP jo O<|aa<|ag (aZ 5 O) sz3 ag3 O O (v:=iZ ((at' f.Nodes i).Kind)) O (aa<|a9 O O<|mvZ (.bool<|decide<|(at' f.Nodes i).Kind<0) O<|gfZ h O O (λhb12 h=>?_) (λhb12 h=>?_))
 ·exact aa<|aP jo O<|gTZ O O hb12<|aa<|ag (aZ 5 O) sz3 ag3 O O (v:=iZ ((at' f.Nodes i).Kind)) O (gTZ O O hb12<|aa<|dp O O<|aa<|aJ O hb12 (v:=.bool (decide<|5<(at' f.Nodes i).Kind)) O (nZ<|⟨((decide<|5<(at' f.Nodes i).Kind),(g1,g2)),(ap (aE<|fn)<|sc O<|sc O<|sn),h⟩))
 exact gFZ O O hb12 O<|gFZ O O hb12 O<|aa<|aI O hb12 (v:=.bool true) O<|nZ<|⟨(true,(g1,g2)),(ap (aE<|fn)<|sc O<|sc O<|sn),h⟩
theorem m9 {f:GFormula} {arg:Int} {Q:Bool->Prop} (h:im f arg Q) (hQ:∀r1,Q r1->R (AV.bool r1) S) :
  Ctr Tryz.prog 79 [aA f,iZ arg] S R:=by
 refine aL Tryz.func79 rfl Tryz.ntmps79 Tryz.results79 krZ (λrg hrg=>?_)
 refine af<|wZ rg<|bp (v:=aA f) O O (kk:=3) O dZ (λg1=>asZ (.bool false) O<|aU<|aa<|aP cH O<|aa<|ag (aZ 2 O) sz3 ag3 O O (v:=iZ f.Vars) O<|aa<|dI O O<|mvZ (.bool<|decide<|0<=f.Vars) O<|gtZ h O O (λhb h=>?_) (λhb h=>?_))
 ·refine mvZ (iZ arg) O<|gTZ O O hb<|aa<|dI O O<|aa<|aI O hb (v:=.bool (decide<|0<=arg)) O (mvZ (.bool<|decide<|0<=arg) O<|gtZ h O O (λhb1 h=>?_) (λhb1 h=>?_))
  ·refine mvZ (iZ arg) O<|gTZ O O hb1<|aa<|aP cH O<|gTZ O O hb1<|aa<|ag (aZ 2 O) sz3 ag3 O O (v:=iZ f.Vars) O<|gTZ O O hb1<|aa<|a9 O O<|gTZ O O hb1<|mvZ (.bool<|decide<|arg<f.Vars) O<|gfZ h O O (λhb2 h=>?_) (λhb2 h=>?_)
   ·exact mvZ (iZ arg) O<|gTZ O O hb2<|aa<|aP cH O<|gTZ O O hb2<|aa<|ag (aZ 2 O) sz3 ag3 O O (v:=iZ f.Vars) O<|gTZ O O hb2<|tkZ h (λhg h=>aa<|bo O O hg<|gTZ O O hb2<|aa<|aP dj O<|gTZ O O hb2<|aa<|ag (aZ 2 O) iR kn O O (v:=eL bF f.Nodes) O<|gTZ O O hb2<|aa<|aG hY O<|gTZ O O hb2<|aa<|a9 O O<|gTZ O O hb1<|aa<|aJ O hb2 (v:=.bool (decide<|(arg-f.Vars)<(f.Nodes.length:Int))) O (aa<|aI O hb1 (v:=.bool (decide<|(arg-f.Vars)<(f.Nodes.length:Int))) O (asZ (.bool<|decide<|(arg-f.Vars)<(f.Nodes.length:Int)) O (aD<|gv1 hrg<|hQ _ h))))
   exact gFZ O O hb2 O<|gFZ O O hb2 O<|gFZ O O hb2 O<|gFZ O O hb2 O<|gFZ O O hb2 O<|gFZ O O hb2 O<|gFZ O O hb2 O<|gTZ O O hb1<|aa<|aI O hb2 (v:=.bool true) O<|aa<|aI O hb1 (v:=.bool true) O<|asZ (.bool true) O<|aD<|gv1 hrg<|hQ _ h
  exact gFZ O O hb1 O<|gFZ O O hb1 O<|gFZ O O hb1 O<|gFZ O O hb1 O<|gUZ O O<|gUZ O O<|gUZ O O<|gUZ O O<|gUZ O O<|gUZ O O<|gUZ O O<|gUZ O O<|gFZ O O hb1 O<|aa<|aJ O hb1 (v:=.bool false) O<|asZ (.bool false) O<|aD<|gv1 hrg<|hQ _ h
 exact gFZ O O hb O<|aa<|aJ O hb (v:=.bool false) O<|mvZ (.bool false) O<|gFZ O O O O<|gFZ O O O O<|gFZ O O O O<|gFZ O O O O<|gFZ O O O O<|gUZ O O<|gUZ O O<|gUZ O O<|gUZ O O<|gUZ O O<|gUZ O O<|gUZ O O<|gUZ O O<|gFZ O O O O<|aa<|aJ O O (v:=.bool false) O<|asZ (.bool false) O<|aD<|gv1 hrg<|hQ _ h
theorem gd {f:GFormula} {Q:Option Int->Prop} (h:dY f Q) (hQ:∀r1,Q r1->R (bc 82 r1) S) :
  Ctr Tryz.prog 23 [aA f] S R:=by
 refine aL Tryz.func23 rfl Tryz.ntmps23 Tryz.results23 krZ (λrg hrg=>?_)
 refine af<|wZ rg<|bp (v:=aA f) O O (kk:=3) O dZ (λg1=>asZ .niface O<|nZ<|qZ<|jgZ (γ:=Nat) h (λy=>aQ [(1,.ptr rg 1 y.2 0 0),(12,.bool y.1)]) (λy=>stL S rg [(1,.arr 3 [aA f],y.2)]) (λy h=>?_) (λ_ h=>?_))
 ·obtain⟨x,g2⟩:=y
  refine cZ h O (λhb h=>?_) (λhb h=>?_)
  ·exact af<|aa<|cb (by rw[hO];trivial) (v:=iZ 3) O<|asZ (.iface 82<|iZ 3) O<|aD<|gv1 hrg<|hQ _ h
  refine kZ<|qZ<|af<|aa<|aP dj O<|aa<|ag (aZ 1 O) iR kn O O (v:=eL bF f.Nodes) O<|aa<|aG hY O<|aa<|dp O O<|nZ<|cZ h O (λhb1 h=>?_) (λhb1 h=>?_)
  ·exact af<|aa<|cb (by rw[hO];trivial) (v:=iZ 4) O<|asZ (.iface 82<|iZ 4) O<|aD<|gv1 hrg<|hQ _ h
  refine kZ<|qZ<|af<|aa<|aP dj O<|aa<|ag (aZ 1 O) iR kn O O (v:=eL bF f.Nodes) O<|aa<|aG hY O<|mvZ (iZ 0) O<|nZ<|bZ<|lpZ h (λy=>aQ [(1,.ptr rg 1 g2 0 0),(21,iZ (f.Nodes.length:Int)),(22,iZ y)]) (λy=>stL S rg [(1,.arr 3 [aA f],g2)]) (ap (fZ<|fZ<|fZ<|fn)<|sc O<|sn) (λx1 _ h=>af<|aa<|a9 O O<|nZ<|qZ<|cZ h O (λhb2 h=>?_) (λhb2 h=>?_))
  ·refine kZ<|qZ<|bZ<|af<|mvZ (iZ x1) O<|asZ (iZ x1) O<|aU<|aa<|am (aZ 1 O) e7 dZ jc O O (v:=aA f) O<|mvZ (iZ x1) O<|aa<|clZ O<|kC h λe h=>asZ (bc 82 e) O<|aU<|mvZ (bc 82 e) O<|aa<|fY je (E:=82) O O O<|nZ<|cZ h O (λhb3 h=>?_) (λhb3 h=>?_)
   ·exact af<|mvZ (bc 82 e) O<|asZ (bc 82 e) O<|aD<|gv1 hrg<|hQ _ h
   exact kZ<|rZ<|tkZ h (λhg h=>aa<|aF O O hg<|mvZ (iZ<|x1+1) O<|nZ<|⟨(x1+1),(ap (fZ<|fZ<|fZ<|fn)<|sc O<|sn),h⟩)
  refine xsZ<|qZ<|af<|aa<|am (aZ 1 O) e7 dZ jc O O (v:=aA f) O<|aa<|aP pV O<|aa<|ag (aZ 1 O) sz3 ag3 O O (v:=iZ f.Top) O<|aa<|clZ O<|m9 h λr h=>aa<|c9 O<|nZ<|cZ h O (λhb4 h=>?_) (λhb4 h=>?_)
  ·exact af<|aa<|cb (by rw[hO];trivial) (v:=iZ 10) O<|asZ (.iface 82<|iZ 10) O<|aD<|gv1 hrg<|hQ _ h
  exact kZ<|af<|asZ .niface O<|aD<|gv1 hrg<|hQ _ h
 refine rZ<|aa<|aP cH O<|aa<|ag (aZ 1 O) sz3 ag3 O O (v:=iZ f.Vars) O<|aa<|a9 O O<|mvZ (.bool<|decide<|f.Vars<0) O<|gfZ h O O (λhb5 h=>?_) (λhb5 h=>?_)
 ·exact aa<|aP cH O<|gTZ O O hb5<|aa<|ag (aZ 1 O) sz3 ag3 O O (v:=iZ f.Vars) O<|gTZ O O hb5<|aa<|dp O O<|aa<|aJ O hb5 (v:=.bool (decide<|24<f.Vars)) O (nZ<|⟨((decide<|24<f.Vars),g1),(ap (fZ<|fZ<|fn)<|sc O<|sn),h⟩)
 exact gFZ O O hb5 O<|gFZ O O hb5 O<|aa<|aI O hb5 (v:=.bool true) O<|nZ<|⟨(true,g1),(ap (fZ<|fZ<|fn)<|sc O<|sn),h⟩
theorem pj {f:GFormula} {i:Int} {Q:Int->Prop} (h:j5 f i Q) (hQ:∀r1,Q r1->R (iZ r1) S) :
  Ctr Tryz.prog 157 [aA f,iZ i] S R:=by
 refine aL Tryz.func157 rfl Tryz.ntmps157 Tryz.results157 krZ (λrg hrg=>?_)
 refine af<|wZ rg<|bp (v:=aA f) O O (kk:=3) O dZ (λg1=>asZ (iZ 0) O<|aU<|aa<|aP dj O<|aa<|ag (aZ 2 O) iR kn O O (v:=eL bF f.Nodes) O<|mvZ (iZ i) O<|tkZ h (λhg h=>aa<|aV hY fD dZ (λ_=>O) O O hg<|aa<|bm fD dZ rq O O (v:=bF (at' f.Nodes i)) O<|wZ rg<|aX fw kr (kk:=3) O (λg2=>aa<|au (aZ 5 O) fD dZ O (w:=bF (at' f.Nodes i)) O O O (v:=bF (at' f.Nodes i)) O aY<|aU<|asZ (iZ 1) O<|asZ (iZ 16) O<|nZ<|jgZ (γ:=Nat×Nat) h (λy=>aQ [(1,iZ i),(2,.ptr rg 2 y.2.1 0 0),(5,.ptr rg 5 y.2.2 0 0),(6,iZ y.1.1),(7,iZ y.1.2)]) (λy=>stL S rg [(2,.arr 3 [aA f],y.2.1),(5,.arr 3 [bF (at' f.Nodes i)],y.2.2)]) (λy h=>?_) (λ_ h=>?_))))
 ·obtain⟨⟨least,most⟩,⟨g3,g4⟩⟩:=y
  refine qZ<|af<|aa<|aP eU O<|aa<|ag (aZ 5 O) dJ eG O O (v:=bH ((at' f.Nodes i).Args)) O (aa<|aG bA O<|mvZ (iZ least) O<|aa<|a9 O O<|mvZ (.bool<|decide<|(((at' f.Nodes i).Args).length:Int)<least) O (gfZ h O O (λhb h=>?_) (λhb h=>?_)))
  ·refine aa<|aP eU O<|gTZ O O hb<|aa<|ag (aZ 5 O) dJ eG O O (v:=bH ((at' f.Nodes i).Args)) O (gTZ O O hb<|aa<|aG bA O<|gTZ O O hb<|mvZ (iZ most) O<|gTZ O O hb<|aa<|dp O O<|aa<|aJ O hb (v:=.bool (decide<|most<(((at' f.Nodes i).Args).length:Int))) O (nZ<|cZ h O (λhb1 h=>?_) (λhb1 h=>?_)))
   ·exact af<|asZ (iZ 11) O<|aD<|gv1 hrg<|hQ _ h
   refine kZ<|qZ<|af<|aa<|aP eU O<|aa<|ag (aZ 5 O) dJ eG O O (v:=bH ((at' f.Nodes i).Args)) O (aa<|aG bA O<|mvZ (iZ 0) O<|nZ<|bZ<|lpZ h (λy=>aQ [(1,iZ i),(2,.ptr rg 2 g3 0 0),(5,.ptr rg 5 g4 0 0),(39,bH ((at' f.Nodes i).Args)),(40,iZ (((at' f.Nodes i).Args).length:Int)),(41,iZ y)]) (λy=>stL S rg [(2,.arr 3 [aA f],g3),(5,.arr 3 [bF (at' f.Nodes i)],g4)]) (ap (aE<|fZ<|fZ<|fn)<|sc O<|sc O<|sn) (λx _ h=>af<|aa<|a9 O O<|nZ<|qZ<|cZ h O (λhb2 h=>?_) (λhb2 h=>?_)))
   ·refine kZ<|qZ<|bZ<|af<|tkZ h (λhg1 h=>aa<|aV bA sz3 dZ (λ_=>O) O O hg1<|aa<|a8 sz3 ag3 O O (v:=iZ (at' ((at' f.Nodes i).Args) x)) O (asZ (iZ<|at' ((at' f.Nodes i).Args) x) O<|aU<|mvZ (iZ<|at' ((at' f.Nodes i).Args) x) O<|aa<|a9 O O<|mvZ (.bool<|decide<|(at' ((at' f.Nodes i).Args) x)<0) O (gfZ h O O (λhb3 h=>?_) (λhb3 h=>?_))))
    ·refine mvZ (iZ<|at' ((at' f.Nodes i).Args) x) O<|gTZ O O hb3<|aa<|aP cH O<|gTZ O O hb3<|aa<|ag (aZ 2 O) sz3 ag3 O O (v:=iZ f.Vars) O<|gTZ O O hb3<|mvZ (iZ i) O<|gTZ O O hb3<|tkZ h (λhg2 h=>aa<|aF O O hg2<|gTZ O O hb3<|aa<|dI O O<|aa<|aJ O hb3 (v:=.bool (decide<|(f.Vars+i)<=(at' ((at' f.Nodes i).Args) x))) O (nZ<|cZ h O (λhb4 h=>?_) (λhb4 h=>?_)))
     ·exact af<|asZ (iZ 10) O<|aD<|gv1 hrg<|hQ _ h
     exact kZ<|rZ<|tkZ h (λhg3 h=>aa<|aF O O hg3<|mvZ (iZ<|x+1) O<|nZ<|⟨(x+1),(ap (aE<|fZ<|fZ<|fn)<|sc O<|sc O<|sn),h⟩)
    exact gFZ O O hb3 O<|gFZ O O hb3 O<|gFZ O O hb3 O<|gFZ O O hb3 O<|gFZ O O hb3 O<|aa<|aI O hb3 (v:=.bool true) O<|nZ<|cTZ O O<|af<|asZ (iZ 10) O<|aD<|gv1 hrg<|hQ _ h
   refine xsZ<|qZ<|af<|aa<|aP jo O<|aa<|ag (aZ 5 O) sz3 ag3 O O (v:=iZ ((at' f.Nodes i).Kind)) O (nZ<|bZ<|af<|aa<|br O O<|asZ (.bool<|(at' f.Nodes i).Kind == 0) O<|nZ<|cZ h O (λhb5 h=>?_) (λhb5 h=>?_))
   ·refine af<|aa<|aP eV O<|aa<|ag (aZ 5 O) sz3 ag3 O O (v:=iZ ((at' f.Nodes i).K)) O (aa<|dn O O<|mvZ (.bool<|(at' f.Nodes i).K != 0) O<|gtZ h O O (λhb6 h=>?_) (λhb6 h=>?_))
    ·refine aa<|aP eV O<|gTZ O O hb6<|aa<|ag (aZ 5 O) sz3 ag3 O O (v:=iZ ((at' f.Nodes i).K)) O (gTZ O O hb6<|aa<|dn O O<|aa<|aI O hb6 (v:=.bool ((at' f.Nodes i).K != 1)) O (nZ<|cZ h O (λhb7 h=>?_) (λhb7 h=>?_)))
     ·exact af<|asZ (iZ 3) O<|aD<|gv1 hrg<|hQ _ h
     exact kZ<|af<|asZ (iZ 0) O<|aD<|gv1 hrg<|hQ _ h
    exact gFZ O O hb6 O<|gFZ O O hb6 O<|aa<|aJ O hb6 (v:=.bool false) O<|nZ<|cFZ O O<|kZ<|af<|asZ (iZ 0) O<|aD<|gv1 hrg<|hQ _ h
   refine af<|aa<|br O O<|asZ (.bool<|(at' f.Nodes i).Kind == 4) O<|nZ<|cZ h O (λhb8 h=>?_) (λhb8 h=>?_)
   ·refine af<|aa<|aP eV O<|aa<|ag (aZ 5 O) sz3 ag3 O O (v:=iZ ((at' f.Nodes i).K)) O (aa<|a9 O O<|mvZ (.bool<|decide<|(at' f.Nodes i).K<1) O<|gfZ h O O (λhb9 h=>?_) (λhb9 h=>?_))
    ·refine aa<|aP eV O<|gTZ O O hb9<|aa<|ag (aZ 5 O) sz3 ag3 O O (v:=iZ ((at' f.Nodes i).K)) O (gTZ O O hb9<|aa<|aP eU O<|gTZ O O hb9<|aa<|ag (aZ 5 O) dJ eG O O (v:=bH ((at' f.Nodes i).Args)) O (gTZ O O hb9<|aa<|aG bA O<|gTZ O O hb9<|aa<|dp O O<|aa<|aJ O hb9 (v:=.bool (decide<|(((at' f.Nodes i).Args).length:Int)<(at' f.Nodes i).K)) O (nZ<|cZ h O (λhb10 h=>?_) (λhb10 h=>?_))))
     ·exact af<|asZ (iZ 3) O<|aD<|gv1 hrg<|hQ _ h
     exact kZ<|af<|asZ (iZ 0) O<|aD<|gv1 hrg<|hQ _ h
    exact gFZ O O hb9 O<|gFZ O O hb9 O<|gFZ O O hb9 O<|gFZ O O hb9 O<|gFZ O O hb9 O<|aa<|aI O hb9 (v:=.bool true) O<|nZ<|cTZ O O<|af<|asZ (iZ 3) O<|aD<|gv1 hrg<|hQ _ h
   refine af<|aa<|aP eV O<|aa<|ag (aZ 5 O) sz3 ag3 O O (v:=iZ ((at' f.Nodes i).K)) O (aa<|dn O O<|nZ<|cZ h O (λhb11 h=>?_) (λhb11 h=>?_))
   ·exact af<|asZ (iZ 2) O<|aD<|gv1 hrg<|hQ _ h
   exact kZ<|af<|asZ (iZ 0) O<|aD<|gv1 hrg<|hQ _ h
  exact gFZ O O hb O<|gFZ O O hb O<|gFZ O O hb O<|gFZ O O hb O<|aa<|aI O hb (v:=.bool true) O<|nZ<|cTZ O O<|af<|asZ (iZ 11) O<|aD<|gv1 hrg<|hQ _ h
 refine af<|aa<|aP jo O<|aa<|ag (aZ 5 O) sz3 ag3 O O (v:=iZ ((at' f.Nodes i).Kind)) O (nZ<|bZ<|af<|aa<|br O O<|asZ (.bool<|(at' f.Nodes i).Kind == 0) O<|nZ<|cZ h O (λhb12 h=>?_) (λhb12 h=>?_))
 ·exact rZ<|asZ (iZ 0) O<|asZ (iZ 0) O<|nZ<|⟨((0,0),(g1,g2)),(ap (aE<|fZ<|fn)<|sc O<|sc O<|sn),h⟩
 refine af<|aa<|br O O<|asZ (.bool<|(at' f.Nodes i).Kind == 1) O<|nZ<|cZ h O (λhb13 h=>?_) (λhb13 h=>?_)
 ·exact rZ<|asZ (iZ 1) O<|nZ<|⟨((1,1),(g1,g2)),(ap (aE<|fZ<|fn)<|sc O<|sc O<|sn),h⟩
 refine qZ<|af<|aa<|br O O<|asZ (.bool<|(at' f.Nodes i).Kind == 2) O<|nZ<|cZ h O (λhb14 h=>?_) (λhb14 h=>?_)
 ·exact kZ<|cTZ O hb14<|kZ<|⟨((1,16),(g1,g2)),(ap (aE<|fZ<|fn)<|sc O<|sc O<|sn),h⟩
 refine af<|aa<|br O O<|asZ (.bool<|(at' f.Nodes i).Kind == 3) O<|nZ<|cZ h O (λhb15 h=>?_) (λhb15 h=>?_)
 ·exact kZ<|cTZ O hb15<|kZ<|⟨((1,16),(g1,g2)),(ap (aE<|fZ<|fn)<|sc O<|sc O<|sn),h⟩
 refine af<|aa<|br O O<|asZ (.bool<|(at' f.Nodes i).Kind == 4) O<|nZ<|cZ h O (λhb16 h=>?_) (λhb16 h=>?_)
 ·exact kZ<|cTZ O hb16<|kZ<|⟨((1,16),(g1,g2)),(ap (aE<|fZ<|fn)<|sc O<|sc O<|sn),h⟩
 refine rZ<|aa<|br O O<|asZ (.bool<|(at' f.Nodes i).Kind == 5) O<|nZ<|cZ h O (λhb17 h=>?_) (λhb17 h=>?_)
 ·exact kZ<|⟨((1,16),(g1,g2)),(ap (aE<|fZ<|fn)<|sc O<|sc O<|sn),h⟩
 exact af<|asZ (iZ 7) O<|aD<|gv1 hrg<|hQ _ h
theorem oB {f:GFormula} {arg:Int} {Q:Bool->Prop} (h:jy f arg Q) (hQ:∀r1,Q r1->R (AV.bool r1) S) :
  Ctr Tryz.prog 158 [aA f,iZ arg] S R:=by
 refine aL Tryz.func158 rfl Tryz.ntmps158 Tryz.results158 krZ (λrg hrg=>?_)
 refine af<|wZ rg<|bp (v:=aA f) O O (kk:=3) O dZ (λg1=>asZ (.bool false) O<|aU<|aa<|aP cH O<|aa<|ag (aZ 2 O) sz3 ag3 O O (v:=iZ f.Vars) O<|aa<|dI O O<|mvZ (.bool<|decide<|0<=f.Vars) O<|gtZ h O O (λhb h=>?_) (λhb h=>?_))
 ·refine mvZ (iZ arg) O<|gTZ O O hb<|aa<|dI O O<|aa<|aI O hb (v:=.bool (decide<|0<=arg)) O (mvZ (.bool<|decide<|0<=arg) O<|gtZ h O O (λhb1 h=>?_) (λhb1 h=>?_))
  ·refine mvZ (iZ arg) O<|gTZ O O hb1<|aa<|aP cH O<|gTZ O O hb1<|aa<|ag (aZ 2 O) sz3 ag3 O O (v:=iZ f.Vars) O<|gTZ O O hb1<|aa<|a9 O O<|gTZ O O hb1<|mvZ (.bool<|decide<|arg<f.Vars) O<|gfZ h O O (λhb2 h=>?_) (λhb2 h=>?_)
   ·exact mvZ (iZ arg) O<|gTZ O O hb2<|aa<|aP cH O<|gTZ O O hb2<|aa<|ag (aZ 2 O) sz3 ag3 O O (v:=iZ f.Vars) O<|gTZ O O hb2<|tkZ h (λhg h=>aa<|bo O O hg<|gTZ O O hb2<|aa<|aP dj O<|gTZ O O hb2<|aa<|ag (aZ 2 O) iR kn O O (v:=eL bF f.Nodes) O<|gTZ O O hb2<|aa<|aG hY O<|gTZ O O hb2<|aa<|a9 O O<|gTZ O O hb1<|aa<|aJ O hb2 (v:=.bool (decide<|(arg-f.Vars)<(f.Nodes.length:Int))) O (aa<|aI O hb1 (v:=.bool (decide<|(arg-f.Vars)<(f.Nodes.length:Int))) O (asZ (.bool<|decide<|(arg-f.Vars)<(f.Nodes.length:Int)) O (aD<|gv1 hrg<|hQ _ h))))
   exact gFZ O O hb2 O<|gFZ O O hb2 O<|gFZ O O hb2 O<|gFZ O O hb2 O<|gFZ O O hb2 O<|gFZ O O hb2 O<|gFZ O O hb2 O<|gTZ O O hb1<|aa<|aI O hb2 (v:=.bool true) O<|aa<|aI O hb1 (v:=.bool true) O<|asZ (.bool true) O<|aD<|gv1 hrg<|hQ _ h
  exact gFZ O O hb1 O<|gFZ O O hb1 O<|gFZ O O hb1 O<|gFZ O O hb1 O<|gUZ O O<|gUZ O O<|gUZ O O<|gUZ O O<|gUZ O O<|gUZ O O<|gUZ O O<|gUZ O O<|gFZ O O hb1 O<|aa<|aJ O hb1 (v:=.bool false) O<|asZ (.bool false) O<|aD<|gv1 hrg<|hQ _ h
 exact gFZ O O hb O<|aa<|aJ O hb (v:=.bool false) O<|mvZ (.bool false) O<|gFZ O O O O<|gFZ O O O O<|gFZ O O O O<|gFZ O O O O<|gFZ O O O O<|gUZ O O<|gUZ O O<|gUZ O O<|gUZ O O<|gUZ O O<|gUZ O O<|gUZ O O<|gUZ O O<|gFZ O O O O<|aa<|aJ O O (v:=.bool false) O<|asZ (.bool false) O<|aD<|gv1 hrg<|hQ _ h
theorem oC {f:GFormula} {Q:Int->Prop} (h:jz f Q) (hQ:∀r1,Q r1->R (iZ r1) S) :
  Ctr Tryz.prog 80 [aA f] S R:=by
 refine aL Tryz.func80 rfl Tryz.ntmps80 Tryz.results80 krZ (λrg hrg=>?_)
 refine af<|wZ rg<|bp (v:=aA f) O O (kk:=3) O dZ (λg1=>asZ (iZ 0) O<|nZ<|qZ<|af<|aa<|aP cH O<|aa<|ag (aZ 1 O) sz3 ag3 O O (v:=iZ f.Vars) O<|aa<|a9 O O<|mvZ (.bool<|decide<|f.Vars<0) O<|gfZ h O O (λhb h=>?_) (λhb h=>?_))
 ·refine aa<|aP cH O<|gTZ O O hb<|aa<|ag (aZ 1 O) sz3 ag3 O O (v:=iZ f.Vars) O<|gTZ O O hb<|aa<|dp O O<|aa<|aJ O hb (v:=.bool (decide<|24<f.Vars)) O (nZ<|cZ h O (λhb1 h=>?_) (λhb1 h=>?_))
  ·exact af<|asZ (iZ 3) O<|aD<|gv1 hrg<|hQ _ h
  refine kZ<|qZ<|af<|aa<|aP dj O<|aa<|ag (aZ 1 O) iR kn O O (v:=eL bF f.Nodes) O<|aa<|aG hY O<|aa<|dp O O<|nZ<|cZ h O (λhb2 h=>?_) (λhb2 h=>?_)
  ·exact af<|asZ (iZ 4) O<|aD<|gv1 hrg<|hQ _ h
  refine kZ<|qZ<|af<|aa<|aP dj O<|aa<|ag (aZ 1 O) iR kn O O (v:=eL bF f.Nodes) O<|aa<|aG hY O<|mvZ (iZ 0) O<|nZ<|bZ<|lpZ h (λy=>aQ [(1,.ptr rg 1 g1 0 0),(19,iZ (f.Nodes.length:Int)),(20,iZ y)]) (λy=>stL S rg [(1,.arr 3 [aA f],g1)]) (ap (fZ<|fZ<|fZ<|fn)<|sc O<|sn) (λx _ h=>af<|aa<|a9 O O<|nZ<|qZ<|cZ h O (λhb3 h=>?_) (λhb3 h=>?_))
  ·refine kZ<|qZ<|bZ<|af<|mvZ (iZ x) O<|asZ (iZ x) O<|aU<|aa<|am (aZ 1 O) e7 dZ jc O O (v:=aA f) O<|mvZ (iZ x) O<|aa<|clZ O<|pj h λe h=>asZ (iZ e) O<|aU<|mvZ (iZ e) O<|aa<|dn O O<|nZ<|cZ h O (λhb4 h=>?_) (λhb4 h=>?_)
   ·exact af<|mvZ (iZ e) O<|asZ (iZ e) O<|aD<|gv1 hrg<|hQ _ h
   exact kZ<|rZ<|tkZ h (λhg h=>aa<|aF O O hg<|mvZ (iZ<|x+1) O<|nZ<|⟨(x+1),(ap (fZ<|fZ<|fZ<|fn)<|sc O<|sn),h⟩)
  refine xsZ<|qZ<|af<|aa<|am (aZ 1 O) e7 dZ jc O O (v:=aA f) O<|aa<|aP pV O<|aa<|ag (aZ 1 O) sz3 ag3 O O (v:=iZ f.Top) O<|aa<|clZ O<|oB h λr h=>aa<|c9 O<|nZ<|cZ h O (λhb5 h=>?_) (λhb5 h=>?_)
  ·exact af<|asZ (iZ 10) O<|aD<|gv1 hrg<|hQ _ h
  exact kZ<|af<|asZ (iZ 0) O<|aD<|gv1 hrg<|hQ _ h
 exact gFZ O O hb O<|gFZ O O hb O<|aa<|aI O hb (v:=.bool true) O<|nZ<|cTZ O O<|af<|asZ (iZ 3) O<|aD<|gv1 hrg<|hQ _ h
end Go.Proofs.YtnjgdkfhgmebjaaGreat
namespace Go.Proofs.YtnjgdkfhgmebjaaGreat
open Go.Gg
set_option maxRecDepth 100000
variable {S:St} {R:AV->St->Prop}
theorem m8 {f:GFormula} {failed:Int} {Q:Option Int->Prop} (h:il f failed Q) (hQ:∀r1,Q r1->R (bc 82 r1) S) :
  Ctr Tryz.prog 83 [aA f,iZ failed] S R:=by
 refine aL Tryz.func83 rfl Tryz.ntmps83 Tryz.results83 krZ (λrg hrg=>?_)
 refine af<|wZ rg<|bp (v:=aA f) O O (kk:=3) O dZ (λg1=>asZ .niface O<|nZ<|qZ<|af<|aa<|am (aZ 2 O) e7 dZ jc O O (v:=aA f) O<|aa<|clZ O<|gd h λe h=>asZ (bc 82 e) O<|aU<|mvZ (bc 82 e) O<|aa<|fY je (E:=82) O O O<|nZ<|cZ h O (λhb h=>?_) (λhb h=>?_))
 ·exact af<|mvZ (bc 82 e) O<|asZ (bc 82 e) O<|aD<|gv1 hrg<|hQ _ h
 refine kZ<|qZ<|jnZ h (λy=>aQ [(19,.bool y)]) (λy=>stL S rg []) (λx h=>?_) (λ_ h=>?_)
 ·refine cZ h O (λhb1 h=>?_) (λhb1 h=>?_)
  ·exact af<|aa<|cb (by rw[hO];trivial) (v:=iZ 3) O<|asZ (.iface 82<|iZ 3) O<|aD<|gv1 hrg<|hQ _ h
  exact kZ<|af<|asZ .niface O<|aD<|gv1 hrg<|hQ _ h
 refine rZ<|mvZ (iZ failed) O<|aa<|a9 O O<|mvZ (.bool<|decide<|failed<0) O<|gfZ h O O (λhb2 h=>?_) (λhb2 h=>?_)
 ·exact mvZ (iZ failed) O<|gTZ O O hb2<|aa<|aP cH O<|gTZ O O hb2<|aa<|ag (aZ 2 O) sz3 ag3 O O (v:=iZ f.Vars) O<|gTZ O O hb2<|tkZ h (λhg h=>aa<|mg O O hg<|gTZ O O hb2<|aa<|dI O O<|aa<|aJ O hb2 (v:=.bool (decide<|(1*2^(Int.toNat f.Vars))<=failed)) O (nZ<|⟨(decide<|(1*2^(Int.toNat f.Vars))<=failed),(ap (fZ<|fn)<|sn),h⟩))
 exact gFZ O O hb2 O<|gFZ O O hb2 O<|gFZ O O hb2 O<|gFZ O O hb2 O<|aa<|aI O hb2 (v:=.bool true) O<|nZ<|⟨true,(ap (fZ<|fn)<|sn),h⟩
theorem mv {f:GFormula} {failed:Int} {Q:List Bool->Prop} (h:gD f failed Q) (hQ:∀r1,Q r1->R (eL AV.bool r1) S) :
  Ctr Tryz.prog 84 [aA f,iZ failed] S R:=by
 refine aL Tryz.func84 rfl Tryz.ntmps84 Tryz.results84 krZ (λrg hrg=>?_)
 refine af<|wZ rg<|bp (v:=aA f) O O (kk:=3) O dZ (λg1=>asZ .nil O<|aU<|aa<|aP cH O<|aa<|ag (aZ 2 O) sz3 ag3 O O (v:=iZ f.Vars) O<|aa<|aP cH O<|aa<|ag (aZ 2 O) sz3 ag3 O O (v:=iZ f.Vars) O<|aa<|aP dj O<|aa<|ag (aZ 2 O) iR kn O O (v:=eL bF f.Nodes) O<|aa<|aG hY O<|tkZ h (λhg h=>aa<|aF O O hg<|tkZ h (λhg1 h=>wZ rg<|ig o6 z4 ok4 (enc:=AV.bool) (z':=false) yZ (kk:=1) O O O hg1 (λg2=>asZ (.sl 1 rg 21 g2 0<|Int.toNat f.Vars) O<|nZ<|qZ<|af<|mvZ (.sl 1 rg 21 g2 0<|Int.toNat f.Vars) O<|aa<|dO o6 O<|mvZ (iZ 0) O<|nZ<|bZ<|lpZ h (λy=>aQ [(1,iZ failed),(2,.ptr rg 2 g1 0 0),(5,.sl 1 rg 21 g2 0 y.2.length),(23,iZ ((Int.toNat f.Vars):Int)),(24,iZ y.1)]) (λy=>stL S rg [(2,.arr 3 [aA f],g1),(21,.arr 1 (List.map AV.bool y.2),g2)]) (ap (fZ<|fZ<|fc (VW.slen lzZ)<|fZ<|fZ<|fn)<|sc O<|sc O<|sn) (λy _ h=>?_)))))
 obtain⟨x,v⟩:=y
 refine af<|aa<|a9 O O<|nZ<|qZ<|cZ h O (λhb h=>?_) (λhb h=>?_)
 ·exact kZ<|qZ<|bZ<|af<|mvZ (iZ x) O<|asZ (iZ x) O<|nZ<|rZ<|mvZ (.sl 1 rg 21 g2 0 v.length) O<|mvZ (iZ x) O<|mvZ (iZ failed) O<|mvZ (iZ x) O<|tkZ h (λhg2 h=>aa<|eb O O hg2<|aa<|mT O O<|aa<|br O O<|tkZ h (λhi h=>aa<|bL o6 sz4 dZ O O hi<|aa<|b7 (aZ 21 O) sz4 dZ (x':=((bits .and .i64 (failed / 2^(Int.toNat x)) 1) == 1)) (λ_=>O) O O (dh hi lzZ) O O aY<|nZ<|rZ<|tkZ h (λhg3 h=>aa<|aF O O hg3<|mvZ (iZ<|x+1) O<|nZ<|⟨((x+1),(b8 v x<|(bits .and .i64 (failed / 2^(Int.toNat x)) 1) == 1)),(ap (fZ<|fZ<|fc (VW.slen lzZ)<|fZ<|fZ<|fn)<|sc O<|sc O<|sn),h⟩)))
 refine xsZ<|qZ<|af<|aa<|aP dj O<|aa<|ag (aZ 2 O) iR kn O O (v:=eL bF f.Nodes) O<|aa<|aG hY O<|mvZ (iZ 0) O<|nZ<|bZ<|lgZ h g2 (λy=>aQ [(5,.sl 1 rg 21 y.2 0 y.1.2.length),(37,eL bF f.Nodes),(38,iZ (f.Nodes.length:Int)),(39,iZ y.1.1)]) (λy=>stL S rg [(21,.arr 1 (List.map AV.bool y.1.2),y.2)]) (ap (aE<|fn)<|sc O<|sn) (λy _ h=>?_)
 obtain⟨⟨x1,v1⟩,g3⟩:=y
 refine af<|aa<|a9 O O<|nZ<|qZ<|cZ h O (λhb1 h=>?_) (λhb1 h=>?_)
 ·refine kZ<|qZ<|bZ<|af<|tkZ h (λhg4 h=>aa<|aV hY fD dZ (λ_=>O) O O hg4<|aa<|bm fD dZ rq O O (v:=bF (at' f.Nodes x1)) O<|wZ rg<|aX fw kr (kk:=3) O (λg4=>aa<|au (aZ 8 O) fD dZ O (w:=bF (at' f.Nodes x1)) O O O (v:=bF (at' f.Nodes x1)) O aY<|aU<|asZ (iZ 0) O<|nZ<|qZ<|af<|aa<|aP eU O<|aa<|ag (aZ 8 O) dJ eG O O (v:=bH ((at' f.Nodes x1).Args)) O (aa<|aG bA O<|mvZ (iZ 0) O<|nZ<|bZ<|lpZ h (λy=>aQ [(5,.sl 1 rg 21 g3 0 v1.length),(8,.ptr rg 8 g4 0 0),(9,iZ y.1),(37,eL bF f.Nodes),(38,iZ (f.Nodes.length:Int)),(39,iZ x1),(44,bH ((at' f.Nodes x1).Args)),(45,iZ (((at' f.Nodes x1).Args).length:Int)),(46,iZ y.2)]) (λy=>stL S rg [(8,.arr 3 [bF (at' f.Nodes x1)],g4),(21,.arr 1 (List.map AV.bool v1),g3)]) (ap (aE<|aE<|fZ<|fn)<|sc O<|sc O<|sn) (λy _ h=>?_))))
  obtain⟨n,x2⟩:=y
  refine af<|aa<|a9 O O<|nZ<|qZ<|cZ h O (λhb2 h=>?_) (λhb2 h=>?_)
  ·refine kZ<|qZ<|bZ<|af<|tkZ h (λhg5 h=>aa<|aV bA sz3 dZ (λ_=>O) O O hg5<|aa<|a8 sz3 ag3 O O (v:=iZ (at' ((at' f.Nodes x1).Args) x2)) O (asZ (iZ<|at' ((at' f.Nodes x1).Args) x2) O<|aU<|mvZ (.sl 1 rg 21 g3 0 v1.length) O<|mvZ (iZ<|at' ((at' f.Nodes x1).Args) x2) O<|tkZ h (λhi1 h=>aa<|bL o6 sz4 dZ O O hi1<|aa<|c_ (aZ 21 O) sz4 ag4 O (dh hi1 lzZ) O (v:=.bool (at' v1<|at' ((at' f.Nodes x1).Args) x2)) O (nZ<|cZ h O (λhb3 h=>?_) (λhb3 h=>?_)))))
   ·exact rZ<|mvZ (iZ n) O<|tkZ h (λhg6 h=>aa<|aF O O hg6<|asZ (iZ<|n+1) O<|nZ<|rZ<|tkZ h (λhg7 h=>aa<|aF O O hg7<|mvZ (iZ<|x2+1) O<|nZ<|⟨((n+1),(x2+1)),(ap (aE<|aE<|fZ<|fn)<|sc O<|sc O<|sn),h⟩))
   exact kZ<|rZ<|tkZ h (λhg8 h=>aa<|aF O O hg8<|mvZ (iZ<|x2+1) O<|nZ<|⟨(n,(x2+1)),(ap (aE<|aE<|fZ<|fn)<|sc O<|sc O<|sn),h⟩)
  refine xsZ<|af<|asZ (.bool false) O<|nZ<|jgZ (γ:=Nat) h (λy=>aQ [(5,.sl 1 rg 21 y.2 0 v1.length),(12,.bool y.1),(37,eL bF f.Nodes),(38,iZ (f.Nodes.length:Int)),(39,iZ x1)]) (λy=>stL S rg [(21,.arr 1 (List.map AV.bool v1),y.2)]) (λy h=>?_) (λ_ h=>?_)
  ·obtain⟨is,g5⟩:=y
   exact rZ<|mvZ (.sl 1 rg 21 g5 0 v1.length) O<|mvZ (.bool is) O<|wZ rg<|ba o6 ok4 yZ (es:=[.bool is]) O (kk:=1) O O O O O O (λg6=>tkZ h (λhg9 h=>wZ rg<|ck o6 z4 ok4 yZ (es:=v1) (xs:=[is]) (enc:=AV.bool) (aZ 21 O) lzZ (bv (aZ 92 O) lzZ) (kk:=1) O O (λ_=>O) (λ_=>O) hg9 O (λ_=>aY) (λg7=>asZ (.sl 1 rg 21 g7 0<|(v1++[is]).length) O<|nZ<|rZ<|tkZ h (λhg10 h=>aa<|aF O O hg10<|mvZ (iZ<|x1+1) O<|nZ<|⟨(((x1+1),(v1++[is])),g7),(ap (aE<|fn)<|sc O<|sn),h⟩))))
  refine af<|aa<|aP jo O<|aa<|ag (aZ 8 O) sz3 ag3 O O (v:=iZ ((at' f.Nodes x1).Kind)) O (nZ<|bZ<|af<|aa<|br O O<|asZ (.bool<|(at' f.Nodes x1).Kind == 0) O<|nZ<|cZ h O (λhb4 h=>?_) (λhb4 h=>?_))
  ·exact rZ<|aa<|aP eV O<|aa<|ag (aZ 8 O) sz3 ag3 O O (v:=iZ ((at' f.Nodes x1).K)) O (aa<|br O O<|asZ (.bool<|(at' f.Nodes x1).K == 1) O<|nZ<|⟨(((at' f.Nodes x1).K == 1),g3),(ap (aE<|fZ<|fn)<|sc O<|sn),h⟩)
  refine af<|aa<|br O O<|asZ (.bool<|(at' f.Nodes x1).Kind == 1) O<|nZ<|cZ h O (λhb5 h=>?_) (λhb5 h=>?_)
  ·exact rZ<|mvZ (iZ n) O<|aa<|br O O<|asZ (.bool<|n == 0) O<|nZ<|⟨((n == 0),g3),(ap (aE<|fZ<|fn)<|sc O<|sn),h⟩
  refine af<|aa<|br O O<|asZ (.bool<|(at' f.Nodes x1).Kind == 2) O<|nZ<|cZ h O (λhb6 h=>?_) (λhb6 h=>?_)
  ·exact rZ<|mvZ (iZ n) O<|aa<|aP eU O<|aa<|ag (aZ 8 O) dJ eG O O (v:=bH ((at' f.Nodes x1).Args)) O (aa<|aG bA O<|aa<|br O O<|asZ (.bool<|n == (((at' f.Nodes x1).Args).length:Int)) O (nZ<|⟨((n == (((at' f.Nodes x1).Args).length:Int)),g3),(ap (aE<|fZ<|fn)<|sc O<|sn),h⟩))
  refine af<|aa<|br O O<|asZ (.bool<|(at' f.Nodes x1).Kind == 3) O<|nZ<|cZ h O (λhb7 h=>?_) (λhb7 h=>?_)
  ·exact rZ<|mvZ (iZ n) O<|aa<|dp O O<|asZ (.bool<|decide<|0<n) O<|nZ<|⟨((decide<|0<n),g3),(ap (aE<|fZ<|fn)<|sc O<|sn),h⟩
  refine af<|aa<|br O O<|asZ (.bool<|(at' f.Nodes x1).Kind == 4) O<|nZ<|cZ h O (λhb8 h=>?_) (λhb8 h=>?_)
  ·exact rZ<|mvZ (iZ n) O<|aa<|aP eV O<|aa<|ag (aZ 8 O) sz3 ag3 O O (v:=iZ ((at' f.Nodes x1).K)) O (aa<|dI O O<|asZ (.bool<|decide<|(at' f.Nodes x1).K<=n) O<|nZ<|⟨((decide<|(at' f.Nodes x1).K<=n),g3),(ap (aE<|fZ<|fn)<|sc O<|sn),h⟩)
  refine af<|aa<|br O O<|asZ (.bool<|(at' f.Nodes x1).Kind == 5) O<|nZ<|cZ h O (λhb9 h=>?_) (λhb9 h=>?_)
  ·exact rZ<|mvZ (iZ n) O<|aa<|wW O O dZ<|aa<|br O O<|asZ (.bool<|(Int.tmod n 2) == 1) O<|nZ<|⟨(((Int.tmod n 2) == 1),g3),(ap (aE<|fZ<|fn)<|sc O<|sn),h⟩
  exact kZ<|⟨(false,g3),(ap (aE<|fZ<|fn)<|sc O<|sn),h⟩
 exact xsZ<|af<|mvZ (.sl 1 rg 21 g3 0 v1.length) O<|asZ (.sl 1 rg 21 g3 0 v1.length) O<|aD<|aw (v:=.sl 1 rg 21 g3 0 v1.length) O<|aH<|bk (k:=21) (xs:=List.map AV.bool v1) O (v':=eL AV.bool v1) (bf O)<|goZ hrg<|hQ _ h
theorem jm {f:GFormula} {failed:Int} {Q:Bool->Option Int->Prop} (h:fu f failed Q) (hQ:∀r1 r2,Q r1 r2->R (.tuple [AV.bool r1,bc 82 r2]) S) :
  Ctr Tryz.prog 25 [aA f,iZ failed] S R:=by
 refine aL Tryz.func25 rfl Tryz.ntmps25 Tryz.results25 krZ (λrg hrg=>?_)
 refine af<|wZ rg<|bp (v:=aA f) O O (kk:=3) O dZ (λg1=>asZ (.bool false) O<|asZ .niface O<|nZ<|qZ<|af<|aa<|am (aZ 2 O) e7 dZ jc O O (v:=aA f) O<|mvZ (iZ failed) O<|aa<|clZ O<|m8 h λe h=>asZ (bc 82 e) O<|aU<|mvZ (bc 82 e) O<|aa<|fY je (E:=82) O O O<|nZ<|cZ h O (λhb h=>?_) (λhb h=>?_))
 ·exact af<|mvZ (bc 82 e) O<|asZ (.bool false) O<|asZ (bc 82 e) O<|aD<|aw (v:=.bool false) O<|aw (v:=bc 82 e) O<|aH<|aK hrg (VW.tupL<|vZ<|vZ<|vn)<|hQ _ _ h
 refine kZ<|qZ ?_
 obtain⟨r,hc,h⟩:=h
 exact tkZ h (λhg h=>Vc.drawn' bz rg (eZ [(2,pc (eL AV.bool r))]) krZ<|dL (E:=([(rg,2)],[])) O O (by simp) (cfn) (am (aZ 2 O) e7 dZ jc O O (v:=aA f) O<|dP O O<|az (v:=iZ failed) O<|dC (vs:=[aA f,iZ failed]) O (vZ<|vZ<|vn) (λ_=>mv hc (λ_ hr=>⟨by rw[hr],rfl⟩)) O<|dP O O<|aP pV O<|dL (E:=([(rg,2)],[])) O O (by simp) (cfa (by simp[aS])<|cfn) (ag (aZ 2 O) sz3 ag3 O O (v:=iZ f.Top) O<|dP O O<|aV o6 sz4 dZ (λ_=>O) O O hg<|dP O O<|a8 sz4 ag4 O O (v:=.bool (at' r f.Top)) O<|dP O O<|aB (v:=.bool (at' r f.Top)) O<|dP O O<|aB (v:=.niface) O<|dN<|uZ<|aw (v:=.bool (at' r f.Top)) O<|aw (v:=.niface) O<|aH<|aK hrg (VW.tupL<|vZ<|vZ<|vn)<|hQ _ _ h)))
end Go.Proofs.YtnjgdkfhgmebjaaGreat
namespace Go.Proofs.YtnjgdkfhgmebjaaGreat
open Go.Gg
set_option maxRecDepth 100000
variable {S:St} {R:AV->St->Prop}
theorem bq {a:List Int} {Q:List Int->Prop} (h:bs a Q) (hQ:∀r1,Q r1->R (ae r1) S) :
  Ctr Tryz.prog 240 [ae a] S R:=by
 refine aL Tryz.func240 rfl Tryz.ntmps240 Tryz.results240 krZ (λrg hrg=>?_)
 refine af<|asZ .nil O<|aU<|mvZ (ae a) O<|aa<|aG aO O<|asZ (iZ (a.length:Int)) O<|nZ<|jnZ h (λy=>aQ [(0,ae a),(3,iZ y)]) (λy=>stL S rg []) (λn h=>?_) (λ_ h=>?_)
 ·refine qZ<|af<|mvZ (iZ n) O<|aa<|br O O<|nZ<|cZ h O (λhb h=>?_) (λhb h=>?_)
  ·exact af<|asZ .nil O<|aD<|aw (v:=.nil) O<|aH<|aK hrg (VW.nilL)<|hQ _ h
  exact kZ<|af<|wZ rg<|ba aO cJ bR (es:=[]) O (kk:=1) O O O O O O (λg1=>mvZ (ae a) O<|mvZ (iZ n) O<|tkZ h (λhg h=>aa<|mS aO aR dZ (λ_=>O) O (l:=0) (h:=n) O O hg<|tkZ h (λhg1 h=>wZ rg<|ck aO dF cJ bR (es:=([]:List Int)) (xs:=(gn a 0 n)) (enc:=AV.int .u32) (aZ 20 O) lzZ (O) (kk:=1) O O (λ_=>O) (λ_=>O) hg1 O (λ_=>aY) (λg2=>asZ (.sl 1 rg 20 g2 0<|(([]:List Int)++(gn a 0 n)).length) O (aD<|aw (v:=.sl 1 rg 20 g2 0 ((([]:List Int)++(gn a 0 n)).length)) O (aH<|bk (k:=20) (xs:=List.map (AV.int .u32) (([]:List Int)++(gn a 0 n))) O (v':=ae (([]:List Int)++(gn a 0 n))) (bf O) (goZ hrg<|hQ _ h)))))))
 refine bZ<|lpZ h (λy=>aQ [(0,ae a),(3,iZ y)]) (λy=>stL S rg []) (ap (fZ<|fZ<|fn)<|sn) (λn1 _ h=>qZ<|af<|mvZ (iZ n1) O<|aa<|dp O O<|mvZ (.bool<|decide<|0<n1) O<|gtZ h O O (λhb1 h=>?_) (λhb1 h=>?_))
 ·refine mvZ (ae a) O<|gTZ O O hb1<|mvZ (iZ n1) O<|gTZ O O hb1<|tkZ h (λhg2 h=>aa<|bo O O hg2<|gTZ O O hb1<|tkZ h (λhg3 h=>aa<|aV aO aR dZ (λ_=>O) O O hg3<|gTZ O O hb1<|aa<|a8 aR cD O O (v:=.int .u32 (at' a<|n1-1)) O (gTZ O O hb1<|aa<|br O O<|aa<|aI O hb1 (v:=.bool ((at' a<|n1-1) == 0)) O (nZ<|cZ h O (λhb2 h=>?_) (λhb2 h=>?_)))))
  ·exact kZ<|bZ<|rZ<|mvZ (iZ n1) O<|tkZ h (λhg4 h=>aa<|bo O O hg4<|asZ (iZ<|n1-1) O<|nZ<|⟨(n1-1),(ap (fZ<|fZ<|fn)<|sn),h⟩)
  exact xsZ<|⟨n1,(ap (fZ<|fZ<|fn)<|sn),h⟩
 exact gFZ O O hb1 O<|gFZ O O hb1 O<|gFZ O O hb1 O<|gFZ O O hb1 O<|gFZ O O hb1 O<|aa<|aJ O hb1 (v:=.bool false) O<|nZ<|cFZ O O<|xsZ<|⟨n1,(ap (fZ<|fZ<|fn)<|sn),h⟩
theorem dX {a:List Int} {b:List Int} {Q:Int->Prop} (h:cM a b Q) (hQ:∀r1,Q r1->R (iZ r1) S) :
  Ctr Tryz.prog 167 [ae a,ae b] S R:=by
 refine aL Tryz.func167 rfl Tryz.ntmps167 Tryz.results167 krZ (λrg hrg=>?_)
 refine af<|asZ (iZ 0) O<|aU<|mvZ (ae a) O<|aa<|clZ O<|bq h λa1 h=>mvZ (ae b) O<|aa<|clZ O<|bq h λb1 h=>asZ (ae a1) O<|asZ (ae b1) O<|nZ<|qZ<|af<|mvZ (ae a1) O<|aa<|aG aO O<|mvZ (ae b1) O<|aa<|aG aO O<|aa<|dn O O<|nZ<|cZ h O (λhb h=>?_) (λhb h=>?_)
 ·refine qZ<|af<|mvZ (ae a1) O<|aa<|aG aO O<|mvZ (ae b1) O<|aa<|aG aO O<|aa<|a9 O O<|nZ<|cZ h O (λhb1 h=>?_) (λhb1 h=>?_)
  ·exact af<|asZ (iZ<|-1) O<|aD<|gv1 hrg<|hQ _ h
  exact kZ<|af<|asZ (iZ 1) O<|aD<|gv1 hrg<|hQ _ h
 refine kZ<|qZ<|af<|mvZ (ae a1) O<|aa<|aG aO O<|tkZ h (λhg h=>aa<|bo O O hg<|asZ (iZ<|(a1.length:Int)-1) O<|nZ<|bZ<|lpZ h (λy=>aQ [(0,ae a1),(1,ae b1),(5,iZ y)]) (λy=>stL S rg []) (ap (fZ<|fZ<|fZ<|fn)<|sn) (λi _ h=>qZ<|af<|mvZ (iZ i) O<|aa<|dI O O<|nZ<|cZ h O (λhb2 h=>?_) (λhb2 h=>?_)))
 ·refine kZ<|qZ<|bZ<|qZ<|qZ<|tkZ h (λhg1 h=>tkZ h (λhg2 h=>Vc.drawn' bz rg (λ_=>gb) krZ<|dP O O<|az (v:=ae a1) O<|dP O O<|az (v:=iZ i) O<|dP O O<|aV aO aR dZ (λ_=>O) O O hg1<|dP O O<|a8 aR cD O O (v:=.int .u32 (at' a1 i)) O<|dP O O<|az (v:=ae b1) O<|dP O O<|az (v:=iZ i) O<|dP O O<|aV aO aR dZ (λ_=>O) O O hg2<|dP O O<|a8 aR cD O O (v:=.int .u32 (at' b1 i)) O<|dP O O<|a9 O O<|dN<|cZ h O (λhb3 h=>?_) (λhb3 h=>?_)))
  ·exact af<|asZ (iZ<|-1) O<|aD<|gv1 hrg<|hQ _ h
  refine kZ<|qZ<|tkZ h (λhg3 h=>tkZ h (λhg4 h=>Vc.drawn' bz rg (λ_=>gb) krZ<|dP O O<|az (v:=ae a1) O<|dP O O<|az (v:=iZ i) O<|dP O O<|aV aO aR dZ (λ_=>O) O O hg3<|dP O O<|a8 aR cD O O (v:=.int .u32 (at' a1 i)) O<|dP O O<|az (v:=ae b1) O<|dP O O<|az (v:=iZ i) O<|dP O O<|aV aO aR dZ (λ_=>O) O O hg4<|dP O O<|a8 aR cD O O (v:=.int .u32 (at' b1 i)) O<|dP O O<|dp O O<|dN<|cZ h O (λhb4 h=>?_) (λhb4 h=>?_)))
  ·exact af<|asZ (iZ 1) O<|aD<|gv1 hrg<|hQ _ h
  exact kZ<|rZ<|mvZ (iZ i) O<|tkZ h (λhg5 h=>aa<|bo O O hg5<|asZ (iZ<|i-1) O<|nZ<|⟨(i-1),(ap (fZ<|fZ<|fZ<|fn)<|sn),h⟩)
 exact xsZ<|af<|asZ (iZ 0) O<|aD<|gv1 hrg<|hQ _ h
theorem kV {n:Int} {Q:List Int->Prop} (h:iG n Q) (hQ:∀r1,Q r1->R (ae r1) S) :
  Ctr Tryz.prog 261 [iZ n] S R:=by
 refine aL Tryz.func261 rfl Tryz.ntmps261 Tryz.results261 krZ (λrg hrg=>?_)
 refine af<|asZ .nil O<|nZ<|qZ<|af<|mvZ (iZ n) O<|aa<|lR O O<|nZ<|cZ h O (λhb h=>?_) (λhb h=>?_)
 ·exact af<|asZ .nil O<|aD<|aw (v:=.nil) O<|aH<|aK hrg (VW.nilL)<|hQ _ h
 exact kZ<|af<|mvZ (iZ n) O<|aa<|bj td3 bN O<|mvZ (iZ n) O<|aa<|eb O O dZ<|aa<|bj td3 bN O<|wZ rg<|ba aO cJ bR (es:=[.int .u32 (IntKind.wrap .u32 n),.int .u32 (IntKind.wrap .u32<|n / 2^(Int.toNat 32))]) O (kk:=1) O O O O O O (λg1=>fI (bi (k:=10) (xs:=List.map (AV.int .u32) [(IntKind.wrap .u32 n),(IntKind.wrap .u32<|n / 2^(Int.toNat 32))]) O (es:=[(10,ae [(IntKind.wrap .u32 n),(IntKind.wrap .u32<|n / 2^(Int.toNat 32))])]) (fc (bf O)<|fn) (m:=[]) (sn)) (aa<|clZ O<|bq h λr h=>asZ (ae r) O<|aD<|gv1 hrg<|hQ _ h))
theorem mX {a:List Int} {b:Int} {Q:List Int->Int->Prop} (h:fr a b Q) (hQ:∀r1 r2,Q r1 r2->R (.tuple [ae r1,AV.int .u32 r2]) S) :
  Ctr Tryz.prog 307 [ae a,AV.int .u32 b] S R:=by
 refine aL Tryz.func307 rfl Tryz.ntmps307 Tryz.results307 krZ (λrg hrg=>?_)
 refine af<|asZ .nil O<|asZ (.int .u32 0) O<|aU<|mvZ (ae a) O<|aa<|aG aO O<|tkZ h (λhg h=>wZ rg<|ig aO dF cJ (enc:=AV.int .u32) (z':=0) bR (kk:=1) O O O hg (λg1=>asZ (.sl 1 rg 11 g1 0<|Int.toNat (a.length:Int)) O<|aU<|asZ (.int .u64 0) O<|nZ<|qZ<|af<|mvZ (ae a) O<|aa<|aG aO O<|tkZ h (λhg1 h=>aa<|bo O O hg1<|asZ (iZ<|(a.length:Int)-1) O<|nZ<|bZ<|lpZ h (λy=>aQ [(0,ae a),(1,.int .u32 b),(6,.sl 1 rg 11 g1 0 y.2.2.length),(7,.int .u64 y.1),(8,iZ y.2.1)]) (λy=>stL S rg [(11,.arr 1 (List.map (AV.int .u32) y.2.2),g1)]) (ap (fZ<|fZ<|fc (VW.slen lzZ)<|fZ<|fZ<|fn)<|sc O<|sn) (λy _ h=>?_))))
 obtain⟨rest,i,out⟩:=y
 refine qZ<|af<|mvZ (iZ i) O<|aa<|dI O O<|nZ<|cZ h O (λhb h=>?_) (λhb h=>?_)
 ·exact kZ<|qZ<|bZ<|af<|mvZ (.int .u64 rest) O<|aa<|kT O O dZ<|mvZ (ae a) O<|mvZ (iZ i) O<|tkZ h (λhg2 h=>aa<|aV aO aR dZ (λ_=>O) O O hg2<|aa<|a8 aR cD O O (v:=.int .u32 (at' a i)) O<|aa<|bj bN bT O<|aa<|qz O O<|stZ h (λrest1 hs h=>wZ rg<|aB (v:=.int .u64 rest1) (by subst hs;rfl)<|aU<|mvZ (.sl 1 rg 11 g1 0 out.length) O<|mvZ (iZ i) O<|mvZ (.int .u64 rest1) O<|mvZ (.int .u32 b) O<|aa<|bj bN bT O<|tkZ h (λhg3 h=>aa<|uO O O hg3<|aa<|bj bT bN O<|tkZ h (λhi h=>aa<|bL aO aR dZ O O hi<|aa<|b7 (aZ 11 O) aR dZ (x':=(IntKind.wrap .u32<|IntKind.wrap .u64<|Int.tdiv rest1<|IntKind.wrap .u64 b)) (λ_=>O) O O (dh hi lzZ) O O aY<|nZ<|rZ<|mvZ (.int .u64 rest1) O<|mvZ (.int .u32 b) O<|aa<|bj bN bT O<|tkZ h (λhg4 h=>aa<|wW O O hg4<|asZ (.int .u64<|Int.tmod rest1<|IntKind.wrap .u64 b) O<|nZ<|rZ<|mvZ (iZ i) O<|tkZ h (λhg5 h=>aa<|bo O O hg5<|asZ (iZ<|i-1) O<|nZ<|⟨((Int.tmod rest1<|IntKind.wrap .u64 b),(i-1),(b8 out i<|IntKind.wrap .u32<|IntKind.wrap .u64<|Int.tdiv rest1<|IntKind.wrap .u64 b)),(ap (fZ<|fZ<|fc (VW.slen lzZ)<|fZ<|fZ<|fn)<|sc O<|sn),h⟩))))))
 exact xsZ<|af<|mvZ (.sl 1 rg 11 g1 0 out.length) O<|fI (bi (k:=11) (xs:=List.map (AV.int .u32) out) O (es:=[(7,.int .u64 rest),(39,ae out)]) (fZ<|fc (bf O)<|fn) (m:=[]) (sn)) (aa<|clZ O<|bq h λr h=>mvZ (.int .u64 rest) O<|aa<|bj bT bN O<|asZ (ae r) O<|asZ (.int .u32<|IntKind.wrap .u32 rest) O<|aD<|aw (v:=ae r) O<|aw (v:=.int .u32 (IntKind.wrap .u32 rest)) O<|aH<|aK hrg (VW.tupL<|vZ<|vZ<|vn)<|hQ _ _ h)
theorem iz {x:Int} {Q:Int->Prop} (h:ee x Q) (hQ:∀r1,Q r1->R (iZ r1) S) :
  Ctr Tryz.prog 282 [AV.int .u32 x] S R:=by
 refine aL Tryz.func282 rfl Tryz.ntmps282 Tryz.results282 krZ (λrg hrg=>?_)
 refine af<|asZ (iZ 0) O<|nZ<|jnZ h (λy=>aQ [(0,.int .u32 y.1),(2,iZ y.2)]) (λy=>stL S rg []) (λy h=>?_) (λ_ h=>?_)
 ·obtain⟨x1,n⟩:=y
  refine jnZ h (λy=>aQ [(0,.int .u32 y.1),(2,iZ y.2)]) (λy=>stL S rg []) (λy h=>?_) (λ_ h=>?_)
  ·obtain⟨x2,n1⟩:=y
   exact af<|mvZ (iZ n1) O<|mvZ (.int .u32 x2) O<|aa<|bj bN td5 O<|tkZ h (λhg h=>wZ rg<|w3 td9 krZ O hg<|aa<|bj td5 td3 O<|tkZ h (λhg1 h=>aa<|aF O O hg1<|stZ h (λn2 hs h=>wZ rg<|aB (v:=iZ n2) (by subst hs;rfl)<|aD<|gv1 hrg<|hQ _ h)))
  refine af<|mvZ (.int .u32 x1) O<|aa<|dI O O<|nZ<|cZ h O (λhb h=>?_) (λhb h=>?_)
  ·exact af<|mvZ (.int .u32 x1) O<|aa<|eb O O dZ<|asZ (.int .u32<|x1 / 2^(Int.toNat 8)) O<|nZ<|rZ<|mvZ (iZ n) O<|tkZ h (λhg2 h=>aa<|aF O O hg2<|asZ (iZ<|n+8) O<|nZ<|⟨((x1 / 2^(Int.toNat 8)),(n+8)),(ap (fZ<|fZ<|fn)<|sn),h⟩)
  exact kZ<|⟨(x1,n),(ap (fZ<|fZ<|fn)<|sn),h⟩
 refine af<|mvZ (.int .u32 x) O<|aa<|dI O O<|nZ<|cZ h O (λhb1 h=>?_) (λhb1 h=>?_)
 ·exact af<|mvZ (.int .u32 x) O<|aa<|eb O O dZ<|asZ (.int .u32<|x / 2^(Int.toNat 16)) O<|nZ<|rZ<|asZ (iZ 16) O<|nZ<|⟨((x / 2^(Int.toNat 16)),16),(ap (fZ<|fZ<|fn)<|sn),h⟩
 exact kZ<|⟨(x,0),(ap (fZ<|fZ<|fn)<|sn),h⟩
theorem ij {x:Int} {Q:Int->Prop} (h:db x Q) (hQ:∀r1,Q r1->R (iZ r1) S) :
  Ctr Tryz.prog 308 [AV.int .u32 x] S R:=by
 refine aL Tryz.func308 rfl Tryz.ntmps308 Tryz.results308 krZ (λrg hrg=>?_)
 exact af<|asZ (iZ 0) O<|aU<|mvZ (.int .u32 x) O<|aa<|clZ O<|iz h λr h=>tkZ h (λhg h=>aa<|bo O O hg<|asZ (iZ<|32-r) O<|aD<|gv1 hrg<|hQ _ h)
theorem nM {a:List Int} {n:Int} {Q:List Int->Prop} (h:da a n Q) (hQ:∀r1,Q r1->R (ae r1) S) :
  Ctr Tryz.prog 309 [ae a,iZ n] S R:=by
 refine aL Tryz.func309 rfl Tryz.ntmps309 Tryz.results309 krZ (λrg hrg=>?_)
 refine af<|asZ .nil O<|aU<|mvZ (ae a) O<|aa<|aG aO O<|tkZ h (λhg h=>aa<|aF O O hg<|tkZ h (λhg1 h=>wZ rg<|ig aO dF cJ (enc:=AV.int .u32) (z':=0) bR (kk:=1) O O O hg1 (λg1=>asZ (.sl 1 rg 12 g1 0<|Int.toNat<|(a.length:Int)+1) O<|nZ<|qZ<|af<|mvZ (ae a) O<|aa<|aG aO O<|mvZ (iZ 0) O<|nZ<|bZ<|lpZ h (λy=>aQ [(1,iZ n),(5,.sl 1 rg 12 g1 0 y.2.length),(13,ae a),(14,iZ (a.length:Int)),(15,iZ y.1)]) (λy=>stL S rg [(12,.arr 1 (List.map (AV.int .u32) y.2),g1)]) (ap (fZ<|fc (VW.slen lzZ)<|fZ<|fZ<|fZ<|fn)<|sc O<|sn) (λy _ h=>?_))))
 obtain⟨x,out⟩:=y
 refine af<|aa<|a9 O O<|nZ<|qZ<|cZ h O (λhb h=>?_) (λhb h=>?_)
 ·refine kZ<|qZ<|bZ<|af<|mvZ (iZ x) O<|tkZ h (λhg2 h=>aa<|aV aO aR dZ (λ_=>O) O O hg2<|aa<|a8 aR cD O O (v:=.int .u32 (at' a x)) O<|asZ (iZ x) O<|asZ (.int .u32<|at' a x) O<|aU<|mvZ (.int .u32<|at' a x) O<|aa<|bj bN bT O<|mvZ (iZ n) O<|tkZ h (λhg3 h=>aa<|kT O O hg3<|stZ h (λy1 hs h=>wZ rg<|aB (v:=.int .u64 y1) (by subst hs;rfl)<|aU<|mvZ (.sl 1 rg 12 g1 0 out.length) O<|mvZ (iZ x) O<|tkZ h (λhi h=>aa<|bL aO aR dZ O O hi<|aa<|c_ (aZ 12 O) aR cD O (dh hi lzZ) O (v:=.int .u32 (at' out x)) O<|mvZ (.int .u64 y1) O<|aa<|bj bT bN O<|aa<|qz O O<|tkZ h (λhi1 h=>aa<|bL aO aR dZ O O hi1<|aa<|b7 (aZ 12 O) aR dZ (x':=(bits .or .u32 (at' out x)<|IntKind.wrap .u32 y1)) (λ_=>O) O O (dh hi1 lzZ) O O aY<|nZ<|rZ<|mvZ (.sl 1 rg 12 g1 0 out.length) O<|mvZ (iZ x) O<|tkZ h (λhg4 h=>aa<|aF O O hg4<|mvZ (.int .u64 y1) O<|aa<|eb O O dZ<|aa<|bj bT bN O<|tkZ h (λhi2 h=>aa<|bL aO aR dZ O O hi2<|aa<|b7 (aZ 12 O) aR dZ (x':=(IntKind.wrap .u32<|y1 / 2^(Int.toNat 32))) (λ_=>O) O O (dh hi2 lzZ) O O aY<|nZ<|rZ<|tkZ h (λhg5 h=>aa<|aF O O hg5<|mvZ (iZ<|x+1) O<|nZ ?_))))))))
  exact⟨((x+1),(b8 (b8 out x<|bits .or .u32 (at' out x)<|IntKind.wrap .u32 y1) (x+1)<|IntKind.wrap .u32<|y1 / 2^(Int.toNat 32))),(ap (fZ<|fc (VW.slen lzZ)<|fZ<|fZ<|fZ<|fn)<|sc O<|sn),h⟩
 exact xsZ<|af<|mvZ (.sl 1 rg 12 g1 0 out.length) O<|asZ (.sl 1 rg 12 g1 0 out.length) O<|aD<|aw (v:=.sl 1 rg 12 g1 0 out.length) O<|aH<|bk (k:=12) (xs:=List.map (AV.int .u32) out) O (v':=ae out) (bf O)<|goZ hrg<|hQ _ h
theorem mZ {a:List Int} {n:Int} (q k:Nat) {Q:List Int->Prop} {S:St} {R:AV->St->Prop} (h:da a n Q) (hQ:∀r1 g,Q r1->R (.sl 1 q k g 0 r1.length) (S.set q k (.arr 1 (List.map (AV.int .u32) r1)) g)) :
  Ctr Tryz.prog 309 [ae a,iZ n] S R:=by
 unfold da at h
 refine aL Tryz.func309 rfl Tryz.ntmps309 Tryz.results309 krZ (λrg hrg=>?_)
 refine af<|asZ .nil O<|aU<|mvZ (ae a) O<|aa<|aG aO O<|tkZ h (λhg h=>aa<|aF O O hg<|tkZ h (λhg1 h=>wZ rg<|ig aO dF cJ (enc:=AV.int .u32) (z':=0) bR (kk:=1) O O O hg1 (λg1=>asZ (.sl 1 rg 12 g1 0<|Int.toNat<|(a.length:Int)+1) O<|nZ<|qZ<|af<|mvZ (ae a) O<|aa<|aG aO O<|mvZ (iZ 0) O<|nZ<|bZ<|lpZ h (λy=>aQ [(1,iZ n),(5,.sl 1 rg 12 g1 0 y.2.length),(13,ae a),(14,iZ (a.length:Int)),(15,iZ y.1)]) (λy=>stL S rg [(12,.arr 1 (List.map (AV.int .u32) y.2),g1)]) (ap (fZ<|fc (VW.slen lzZ)<|fZ<|fZ<|fZ<|fn)<|sc O<|sn) (λy _ h=>?_))))
 obtain⟨x,out⟩:=y
 refine af<|aa<|a9 O O<|nZ<|qZ<|cZ h O (λhb h=>?_) (λhb h=>?_)
 ·refine kZ<|qZ<|bZ<|af<|mvZ (iZ x) O<|tkZ h (λhg2 h=>aa<|aV aO aR dZ (λ_=>O) O O hg2<|aa<|a8 aR cD O O (v:=.int .u32 (at' a x)) O<|asZ (iZ x) O<|asZ (.int .u32<|at' a x) O<|aU<|mvZ (.int .u32<|at' a x) O<|aa<|bj bN bT O<|mvZ (iZ n) O<|tkZ h (λhg3 h=>aa<|kT O O hg3<|stZ h (λy1 hs h=>wZ rg<|aB (v:=.int .u64 y1) (by subst hs;rfl)<|aU<|mvZ (.sl 1 rg 12 g1 0 out.length) O<|mvZ (iZ x) O<|tkZ h (λhi h=>aa<|bL aO aR dZ O O hi<|aa<|c_ (aZ 12 O) aR cD O (dh hi lzZ) O (v:=.int .u32 (at' out x)) O<|mvZ (.int .u64 y1) O<|aa<|bj bT bN O<|aa<|qz O O<|tkZ h (λhi1 h=>aa<|bL aO aR dZ O O hi1<|aa<|b7 (aZ 12 O) aR dZ (x':=(bits .or .u32 (at' out x)<|IntKind.wrap .u32 y1)) (λ_=>O) O O (dh hi1 lzZ) O O aY<|nZ<|rZ<|mvZ (.sl 1 rg 12 g1 0 out.length) O<|mvZ (iZ x) O<|tkZ h (λhg4 h=>aa<|aF O O hg4<|mvZ (.int .u64 y1) O<|aa<|eb O O dZ<|aa<|bj bT bN O<|tkZ h (λhi2 h=>aa<|bL aO aR dZ O O hi2<|aa<|b7 (aZ 12 O) aR dZ (x':=(IntKind.wrap .u32<|y1 / 2^(Int.toNat 32))) (λ_=>O) O O (dh hi2 lzZ) O O aY<|nZ<|rZ<|tkZ h (λhg5 h=>aa<|aF O O hg5<|mvZ (iZ<|x+1) O<|nZ ?_))))))))
  exact⟨((x+1),(b8 (b8 out x<|bits .or .u32 (at' out x)<|IntKind.wrap .u32 y1) (x+1)<|IntKind.wrap .u32<|y1 / 2^(Int.toNat 32))),(ap (fZ<|fc (VW.slen lzZ)<|fZ<|fZ<|fZ<|fn)<|sc O<|sn),h⟩
 refine xsZ<|af<|mvZ (.sl 1 rg 12 g1 0 out.length) O<|asZ (.sl 1 rg 12 g1 0 out.length) O<|aD<|aw (v:=.sl 1 rg 12 g1 0 out.length) O<|aH ?_
 show dq _ (.sl 1 rg 12 g1 0 out.length) _
 exact vY q k hrg O (λg'=>hQ _ g' h)
theorem cp {a:List Int} {i:Int} {Q:Int->Prop} (h:b_ a i Q) (hQ:∀r1,Q r1->R (AV.int .u64 r1) S) :
  Ctr Tryz.prog 244 [ae a,iZ i] S R:=by
 refine aL Tryz.func244 rfl Tryz.ntmps244 Tryz.results244 krZ (λrg hrg=>?_)
 refine af<|asZ (.int .u64 0) O<|nZ<|qZ<|af<|mvZ (iZ i) O<|mvZ (ae a) O<|aa<|aG aO O<|aa<|a9 O O<|nZ<|cZ h O (λhb h=>?_) (λhb h=>?_)
 ·exact af<|mvZ (ae a) O<|mvZ (iZ i) O<|tkZ h (λhg h=>aa<|aV aO aR dZ (λ_=>O) O O hg<|aa<|a8 aR cD O O (v:=.int .u32 (at' a i)) O<|aa<|bj bN bT O<|asZ (.int .u64<|IntKind.wrap .u64<|at' a i) O<|aD<|gv1 hrg<|hQ _ h)
 exact kZ<|af<|asZ (.int .u64 0) O<|aD<|gv1 hrg<|hQ _ h
theorem nL {u:List Int} {uo:Nat} {ul:Nat} {v:List Int} {n:Int} {q0 k0 g0:Nat} {Q:List Int->Bool->Prop} (h:i4 u uo ul v n Q) (hQ:∀r1 r2,Q r1 r2->R (AV.bool r2) (stX S [(q0,k0,.arr 1 (List.map (AV.int .u32) r1),g0)])) :
  Ctr Tryz.prog 310 [.sl 1 q0 k0 g0 uo ul,ae v,AV.int .u64 n] (stX S [(q0,k0,.arr 1 (List.map (AV.int .u32) u),g0)]) R:=by
 refine aL Tryz.func310 rfl Tryz.ntmps310 Tryz.results310 krZ (λrg hrg=>?_)
 have hdx:DX [(q0,k0,.arr 1 (List.map (AV.int .u32) u),g0)]:=dx1
 have hfr:=λX' e=>gC (S:=S) (rg:=rg) (X:=[(q0,k0,.arr 1 (List.map (AV.int .u32) u),g0)]) (X':=X') e hrg
 have hne0:=jT hdx hrg 0 rfl
 refine af<|asZ (.bool false) O<|aU<|asZ (.int .u64 0) O<|asZ (.int .u64 0) O<|nZ<|qZ<|af<|mvZ (.sl 1 q0 k0 g0 uo ul) O<|aa<|dO aO O<|mvZ (iZ 0) O<|nZ<|bZ<|lpZ h (λy=>aQ [(0,.sl 1 q0 k0 g0 uo ul),(1,ae v),(2,.int .u64 n),(7,.int .u64 y.1),(8,.int .u64 y.2.1),(12,iZ (ul:Int)),(13,iZ y.2.2.1)]) (λy=>stL (stX S [(q0,k0,.arr 1 (List.map (AV.int .u32) y.2.2.2),g0)]) rg []) (ap (aE<|fZ<|fZ<|fZ<|fn)<|sn) (λy _ h=>?_)
 obtain⟨carry,borrow,x,u1⟩:=y
 refine af<|aa<|a9 O O<|nZ<|qZ<|cZ h O (λhb h=>?_) (λhb h=>?_)
 ·refine kZ<|qZ<|bZ<|af<|mvZ (iZ x) O<|asZ (iZ x) O<|aU<|mvZ (.int .u64 carry) O<|mvZ (.int .u64 n) O<|mvZ (ae v) O<|mvZ (iZ x) O<|aa<|clZ O<|cp h λr h=>aa<|tk O O<|aa<|jP O O<|stZ h (λcarry1 hs h=>wZ rg<|aB (v:=.int .u64 carry1) (by subst hs;rfl)<|aU<|mvZ (.sl 1 q0 k0 g0 uo ul) O<|mvZ (iZ x) O<|tkZ h (λhi h=>aa<|oT aO aR dZ O O hi<|tkZ h (λhg h=>aa<|c_ (atX hne0 hdx 0 O) aR cD O (hg) O (v:=.int .u32 (at' u1<|(uo:Int)+x)) O (aa<|bj bN bT O<|mvZ (.int .u64 carry1) O<|aa<|bj bT bN O<|aa<|bj bN bT O<|aa<|lQ O O<|mvZ (.int .u64 borrow) O<|aa<|lQ O O<|stZ h (λd hs1 h=>wZ rg<|aB (v:=.int .u64 d) (by subst hs1;rfl)<|aU<|mvZ (.sl 1 q0 k0 g0 uo ul) O<|mvZ (iZ x) O<|mvZ (.int .u64 d) O<|aa<|bj bT bN O<|tkZ h (λhi1 h=>aa<|oT aO aR dZ O O hi1<|tkZ h (λhg1 h=>aa<|b7 (atX hne0 hdx 0 O) aR dZ (x':=(IntKind.wrap .u32 d)) (λ_=>O) O O (hg1) O O (zb hne0 hdx 0 O O)<|aU<|mvZ (.int .u64 d) O<|aa<|eb O O dZ<|asZ (.int .u64<|d / 2^(Int.toNat 63)) O<|nZ<|rZ<|mvZ (.int .u64 carry1) O<|aa<|eb O O dZ<|asZ (.int .u64<|carry1 / 2^(Int.toNat 32)) O<|nZ<|rZ<|tkZ h (λhg2 h=>aa<|aF O O hg2<|mvZ (iZ<|x+1) O<|nZ ?_))))))))
  exact⟨((carry1 / 2^(Int.toNat 32)),(d / 2^(Int.toNat 63)),(x+1),(b8 u1 ((uo:Int)+x)<|IntKind.wrap .u32 d)),(ap (aE<|fZ<|fZ<|fZ<|fn)<|sn),h⟩
 exact xsZ<|af<|mvZ (.int .u64 borrow) O<|aa<|br O O<|asZ (.bool<|borrow == 1) O<|aD<|gv1 (hfr _ O)<|hQ _ _ h
theorem nN {u:List Int} {uo:Nat} {ul:Nat} {v:List Int} {q0 k0 g0:Nat} {Q:List Int->Prop} (h:i5 u uo ul v Q) (hQ:∀r1,Q r1->R (.tuple []) (stX S [(q0,k0,.arr 1 (List.map (AV.int .u32) r1),g0)])) :
  Ctr Tryz.prog 311 [.sl 1 q0 k0 g0 uo ul,ae v] (stX S [(q0,k0,.arr 1 (List.map (AV.int .u32) u),g0)]) R:=by
 refine aL Tryz.func311 rfl Tryz.ntmps311 Tryz.results311 krZ (λrg hrg=>?_)
 have hdx:DX [(q0,k0,.arr 1 (List.map (AV.int .u32) u),g0)]:=dx1
 have hfr:=λX' e=>gC (S:=S) (rg:=rg) (X:=[(q0,k0,.arr 1 (List.map (AV.int .u32) u),g0)]) (X':=X') e hrg
 have hne0:=jT hdx hrg 0 rfl
 refine af<|asZ (.int .u64 0) O<|aU<|mvZ (.sl 1 q0 k0 g0 uo ul) O<|aa<|dO aO O<|mvZ (iZ 0) O<|nZ<|bZ<|lpZ h (λy=>aQ [(0,.sl 1 q0 k0 g0 uo ul),(1,ae v),(4,.int .u64 y.1),(7,iZ (ul:Int)),(8,iZ y.2.1)]) (λy=>stL (stX S [(q0,k0,.arr 1 (List.map (AV.int .u32) y.2.2),g0)]) rg []) (ap (aE<|fZ<|fn)<|sn) (λy _ h=>?_)
 obtain⟨carry,x,u1⟩:=y
 refine af<|aa<|a9 O O<|nZ<|qZ<|cZ h O (λhb h=>?_) (λhb h=>?_)
 ·refine kZ<|qZ<|bZ<|af<|mvZ (iZ x) O<|asZ (iZ x) O<|nZ<|qZ<|tkZ h (λhi h=>tkZ h (λhg h=>?_))
  obtain⟨r,hc,h⟩:=h
  refine Vc.drawn' bz rg (eZ [(8,pc (.int .u64 r))]) krZ<|dP O O<|az (v:=.int .u64 carry) O<|dP O O<|az (v:=.sl 1 q0 k0 g0 uo ul) O<|dP O O<|az (v:=iZ x) O<|dP O O<|oT aO aR dZ O O hi<|dL (E:=([(q0,k0)],[])) O O (by simp) (cfn) (c_ (atX hne0 hdx 0 O) aR cD O (hg) O (v:=.int .u32 (at' u1<|(uo:Int)+x)) O (dP O O<|bj bN bT O<|dP O O<|az (v:=ae v) O<|dP O O<|az (v:=iZ x) O<|dC (vs:=[ae v,iZ x]) O (vZ<|vZ<|vn) (λ_=>cp hc (λ_ hr=>⟨by rw[hr],rfl⟩)) O<|dP O O<|jP O O<|dP O O<|jP O O<|dP O O<|aB (v:=.int .u64 (IntKind.wrap .u64<|carry+(IntKind.wrap .u64<|(IntKind.wrap .u64<|at' u1<|(uo:Int)+x)+r))) O (dN<|af<|mvZ (.sl 1 q0 k0 g0 uo ul) O<|mvZ (iZ x) O<|mvZ (.int .u64<|IntKind.wrap .u64<|carry+(IntKind.wrap .u64<|(IntKind.wrap .u64<|at' u1<|(uo:Int)+x)+r)) O (aa<|bj bT bN O<|tkZ h (λhi1 h=>aa<|oT aO aR dZ O O hi1<|tkZ h (λhg1 h=>aa<|b7 (atX hne0 hdx 0 O) aR dZ (x':=(IntKind.wrap .u32<|IntKind.wrap .u64<|carry+(IntKind.wrap .u64<|(IntKind.wrap .u64<|at' u1<|(uo:Int)+x)+r))) (λ_=>O) O O (hg1) O O (zb hne0 hdx 0 O O)<|nZ<|rZ<|mvZ (.int .u64<|IntKind.wrap .u64<|carry+(IntKind.wrap .u64<|(IntKind.wrap .u64<|at' u1<|(uo:Int)+x)+r)) O (aa<|eb O O dZ<|stZ h (λcarry1 hs h=>?_))))))))
  exact wZ rg<|aB (v:=.int .u64 carry1) (by subst hs;rfl)<|nZ<|rZ<|tkZ h (λhg2 h=>aa<|aF O O hg2<|mvZ (iZ<|x+1) O<|nZ<|⟨(carry1,(x+1),(b8 u1 ((uo:Int)+x)<|IntKind.wrap .u32<|IntKind.wrap .u64<|carry+(IntKind.wrap .u64<|(IntKind.wrap .u64<|at' u1<|(uo:Int)+x)+r))),(ap (aE<|fZ<|fn)<|sn),h⟩)
 exact xsZ<|gv0 (hfr _ O)<|hQ _ h
theorem mY {a:List Int} {n:Int} {Q:List Int->Prop} (h:ft a n Q) (hQ:∀r1,Q r1->R (ae r1) S) :
  Ctr Tryz.prog 312 [ae a,iZ n] S R:=by
 refine aL Tryz.func312 rfl Tryz.ntmps312 Tryz.results312 krZ (λrg hrg=>?_)
 refine af<|asZ .nil O<|aU<|mvZ (ae a) O<|aa<|aG aO O<|tkZ h (λhg h=>wZ rg<|ig aO dF cJ (enc:=AV.int .u32) (z':=0) bR (kk:=1) O O O hg (λg1=>asZ (.sl 1 rg 9 g1 0<|Int.toNat (a.length:Int)) O<|nZ<|qZ<|af<|mvZ (ae a) O<|aa<|aG aO O<|mvZ (iZ 0) O<|nZ<|bZ<|lpZ h (λy=>aQ [(0,ae a),(1,iZ n),(5,.sl 1 rg 9 g1 0 y.2.length),(11,iZ (a.length:Int)),(12,iZ y.1)]) (λy=>stL S rg [(9,.arr 1 (List.map (AV.int .u32) y.2),g1)]) (ap (fZ<|fZ<|fc (VW.slen lzZ)<|fZ<|fZ<|fn)<|sc O<|sn) (λy _ h=>?_)))
 obtain⟨x,out⟩:=y
 refine af<|aa<|a9 O O<|nZ<|qZ<|cZ h O (λhb h=>?_) (λhb h=>?_)
 ·exact kZ<|qZ<|bZ<|af<|mvZ (iZ x) O<|asZ (iZ x) O<|nZ<|rZ<|mvZ (.sl 1 rg 9 g1 0 out.length) O<|mvZ (iZ x) O<|mvZ (ae a) O<|mvZ (iZ x) O<|aa<|clZ O<|cp h λr h=>mvZ (ae a) O<|mvZ (iZ x) O<|tkZ h (λhg1 h=>aa<|aF O O hg1<|aa<|clZ O<|cp h λr1 h=>aa<|kT O O dZ<|aa<|qz O O<|mvZ (iZ n) O<|tkZ h (λhg2 h=>aa<|eb O O hg2<|aa<|bj bT bN O<|tkZ h (λhi h=>aa<|bL aO aR dZ O O hi<|aa<|b7 (aZ 9 O) aR dZ (x':=(IntKind.wrap .u32<|(bits .or .u64 r<|IntKind.wrap .u64<|r1*2^(Int.toNat 32)) / 2^(Int.toNat n))) (λ_=>O) O O (dh hi lzZ) O O aY<|nZ<|rZ<|tkZ h (λhg3 h=>aa<|aF O O hg3<|mvZ (iZ<|x+1) O<|nZ<|⟨((x+1),(b8 out x<|IntKind.wrap .u32<|(bits .or .u64 r<|IntKind.wrap .u64<|r1*2^(Int.toNat 32)) / 2^(Int.toNat n))),(ap (fZ<|fZ<|fc (VW.slen lzZ)<|fZ<|fZ<|fn)<|sc O<|sn),h⟩))))
 exact xsZ<|af<|mvZ (.sl 1 rg 9 g1 0 out.length) O<|asZ (.sl 1 rg 9 g1 0 out.length) O<|aD<|aw (v:=.sl 1 rg 9 g1 0 out.length) O<|aH<|bk (k:=9) (xs:=List.map (AV.int .u32) out) O (v':=ae out) (bf O)<|goZ hrg<|hQ _ h
theorem ii {a:List Int} {b:List Int} {Q:List Int->List Int->Option Int->Prop} (h:fk a b Q) (hQ:∀r1 r2 r3,Q r1 r2 r3->R (.tuple [ae r1,ae r2,bc 82 r3]) S) :
  Ctr Tryz.prog 243 [ae a,ae b] S R:=by
 refine aL Tryz.func243 rfl Tryz.ntmps243 Tryz.results243 krZ (λrg hrg=>?_)
 refine af<|asZ .nil O<|asZ .nil O<|asZ .niface O<|aU<|mvZ (ae a) O<|aa<|clZ O<|bq h λa1 h=>mvZ (ae b) O<|aa<|clZ O<|bq h λb1 h=>asZ (ae a1) O<|asZ (ae b1) O<|nZ<|qZ<|af<|mvZ (ae b1) O<|aa<|aG aO O<|aa<|br O O<|nZ<|cZ h O (λhb h=>?_) (λhb h=>?_)
 ·exact af<|aa<|cb (by rw[hO];trivial) (v:=iZ 8) O<|asZ .nil O<|asZ .nil O<|asZ (.iface 82<|iZ 8) O<|aD<|aw (v:=.nil) O<|aw (v:=.nil) O<|aw (v:=.iface 82 (iZ 8)) O<|aH<|aK hrg (VW.tupL<|vl' (VW.nilL)<|vl' (VW.nilL)<|vZ<|vn)<|hQ _ _ _ h
 refine kZ<|qZ<|af<|mvZ (ae a1) O<|mvZ (ae b1) O<|aa<|clZ O<|dX h λr h=>aa<|a9 O O<|nZ<|cZ h O (λhb1 h=>?_) (λhb1 h=>?_)
 ·exact af<|mvZ (ae a1) O<|asZ .nil O<|asZ (ae a1) O<|asZ .niface O<|aD<|aw (v:=.nil) O<|aw (v:=ae a1) O<|aw (v:=.niface) O<|aH<|aK hrg (VW.tupL<|vl' (VW.nilL)<|vZ<|vZ<|vn)<|hQ _ _ _ h
 refine kZ<|qZ<|af<|mvZ (ae b1) O<|aa<|aG aO O<|aa<|br O O<|nZ<|cZ h O (λhb2 h=>?_) (λhb2 h=>?_)
 ·exact af<|mvZ (ae a1) O<|mvZ (ae b1) O<|tkZ h (λhg h=>aa<|aV aO aR dZ (λ_=>O) O O hg<|aa<|a8 aR cD O O (v:=.int .u32 (at' b1 0)) O<|aa<|clZ O<|mX h λr1 r2 h=>mvZ (.tuple [ae r1,.int .u32 r2]) O<|aa<|ah (v:=ae r1) O O O<|aa<|ah (v:=.int .u32 r2) O O O<|asZ (ae r1) O<|asZ (.int .u32 r2) O<|aU<|mvZ (ae r1) O<|mvZ (.int .u32 r2) O<|aa<|bj bN td3 O<|aa<|clZ O<|kV h λr3 h=>asZ (ae r1) O<|asZ (ae r3) O<|asZ .niface O<|aD<|aw (v:=ae r1) O<|aw (v:=ae r3) O<|aw (v:=.niface) O<|aH<|aK hrg (VW.tupL<|vZ<|vZ<|vZ<|vn)<|hQ _ _ _ h)
 refine kZ<|af<|mvZ (ae b1) O<|mvZ (ae b1) O<|aa<|aG aO O<|tkZ h (λhg1 h=>aa<|bo O O hg1<|tkZ h (λhg2 h=>aa<|aV aO aR dZ (λ_=>O) O O hg2<|aa<|a8 aR cD O O (v:=.int .u32 (at' b1<|(b1.length:Int)-1)) O (aa<|clZ O<|ij h λn h=>asZ (iZ n) O<|aU<|mvZ (ae b1) O<|mvZ (iZ n) O<|aa<|clZ O<|nM h λr4 h=>mvZ (ae b1) O<|aa<|aG aO O<|tkZ h (λhg3 h=>aa<|mS aO aR dZ (λ_=>O) O (l:=0) (h:=(b1.length:Int)) O O hg3<|stZ h (λv hs h=>wZ rg<|aB (v:=ae v) (by subst hs;rfl)<|aU<|mvZ (ae a1) O<|mvZ (iZ n) O<|aa<|clZ O<|mZ rg 61 h λu g1 h=>mB aY<|asZ (.sl 1 rg 61 g1 0 u.length) O<|nZ<|qZ<|tkZ h (λhg4 h=>tkZ h (λhg5 h=>tkZ h (λhg6 h=>tkZ h (λhg7 h=>Vc.drawn' bz rg (λ_=>gb) krZ<|dP O O<|az (v:=ae v) O<|dP O O<|az (v:=ae v) O<|dP O O<|aG aO O<|dP O O<|bo O O hg4<|dP O O<|aV aO aR dZ (λ_=>O) O O hg5<|dP O O<|a8 aR cD O O (v:=.int .u32 (at' v<|(v.length:Int)-1)) O (dP O O<|bj bN bT O<|dP O O<|az (v:=ae v) O<|dP O O<|az (v:=ae v) O<|dP O O<|aG aO O<|dP O O<|bo O O hg6<|dP O O<|aV aO aR dZ (λ_=>O) O O hg7 ?_))))))))))
 refine dP O O<|a8 aR cD O O (v:=.int .u32 (at' v<|(v.length:Int)-2)) O (dP O O<|bj bN bT O<|dP O O<|aB (v:=.int .u64 (IntKind.wrap .u64<|at' v<|(v.length:Int)-1)) O (dP O O<|aB (v:=.int .u64 (IntKind.wrap .u64<|at' v<|(v.length:Int)-2)) O (dN<|af<|mvZ (.sl 1 rg 61 g1 0 u.length) O<|aa<|dO aO O<|mvZ (ae v) O<|aa<|aG aO O<|tkZ h (λhg8 h=>aa<|bo O O hg8<|tkZ h (λhg9 h=>wZ rg<|ig aO dF cJ (enc:=AV.int .u32) (z':=0) bR (kk:=1) O O O hg9 (λg2=>asZ (.sl 1 rg 81 g2 0<|Int.toNat<|(u.length:Int)-(v.length:Int)) O<|nZ<|qZ<|af<|mvZ (.sl 1 rg 81 g2 0<|Int.toNat<|(u.length:Int)-(v.length:Int)) O<|aa<|dO aO O<|tkZ h (λhg10 h=>aa<|bo O O hg10<|stZ h (λj hs1 h=>wZ rg<|aB (v:=iZ j) (by subst hs1;rfl)<|nZ<|bZ<|lgZ h (g1,g2) (λy=>aQ [(4,.sl 1 rg 81 y.2.2 0 y.1.2.2.length),(9,iZ n),(10,ae v),(11,.sl 1 rg 61 y.2.1 0 y.1.2.1.length),(12,.int .u64 (IntKind.wrap .u64<|at' v<|(v.length:Int)-1)),(13,.int .u64 (IntKind.wrap .u64<|at' v<|(v.length:Int)-2)),(14,iZ y.1.1)]) (λy=>stL S rg [(61,.arr 1 (List.map (AV.int .u32) y.1.2.1),y.2.1),(81,.arr 1 (List.map (AV.int .u32) y.1.2.2),y.2.2)]) (ap (fc (VW.slen lzZ)<|aE<|fZ<|fZ<|fn)<|sc O<|sc O<|sn) (λy _ h=>?_)))))))))
 obtain⟨⟨j1,u1,q⟩,⟨g3,g4⟩⟩:=y
 refine qZ<|af<|mvZ (iZ j1) O<|aa<|dI O O<|nZ<|cZ h O (λhb3 h=>?_) (λhb3 h=>?_)
 ·refine kZ<|qZ<|bZ<|qZ<|tkZ h (λhg11 h=>tkZ h (λhi h=>tkZ h (λhg12 h=>tkZ h (λhg13 h=>tkZ h (λhi1 h=>Vc.drawn' bz rg (λ_=>gb) krZ<|dP O O<|az (v:=.sl 1 rg 61 g3 0 u1.length) O<|dP O O<|az (v:=iZ j1) O<|dP O O<|az (v:=ae v) O<|dP O O<|aG aO O<|dP O O<|aF O O hg11<|dP O O<|bL aO aR dZ O O hi<|dL (E:=([(rg,61)],[])) O O (by simp) (cfn) (c_ (aZ 61 O) aR cD O (dh hi lzZ) O (v:=.int .u32 (at' u1<|j1+(v.length:Int))) O (dP O O<|bj bN bT O<|dP O O<|kT O O dZ<|dP O O<|az (v:=.sl 1 rg 61 g3 0 u1.length) O<|dP O O<|az (v:=iZ j1) O<|dP O O<|az (v:=ae v) O<|dP O O<|aG aO O<|dP O O<|aF O O hg12<|dP O O<|bo O O hg13<|dP O O<|bL aO aR dZ O O hi1<|dL (E:=([(rg,61)],[])) O O (by simp) (cfa (by simp[aS])<|cfn) (c_ (aZ 61 O) aR cD O (dh hi1 lzZ) O (v:=.int .u32 (at' u1<|(j1+(v.length:Int))-1)) O (dP O O<|bj bN bT O<|dP O O<|qz O O<|dP O O<|aB (v:=.int .u64 (bits .or .u64 (IntKind.wrap .u64<|(IntKind.wrap .u64<|at' u1<|j1+(v.length:Int))*2^(Int.toNat 32)) (IntKind.wrap .u64<|at' u1<|(j1+(v.length:Int))-1))) O (dN<|qZ<|tkZ h (λhg14 h=>tkZ h (λhg15 h=>Vc.drawn' bz rg (λ_=>gb) krZ ?_))))))))))))
  refine dP O O<|az (v:=.int .u64 (bits .or .u64 (IntKind.wrap .u64<|(IntKind.wrap .u64<|at' u1<|j1+(v.length:Int))*2^(Int.toNat 32)) (IntKind.wrap .u64<|at' u1<|(j1+(v.length:Int))-1))) O (dP O O<|az (v:=.int .u64 (IntKind.wrap .u64<|at' v<|(v.length:Int)-1)) O (dP O O<|uO O O hg14<|dP O O<|az (v:=.int .u64 (bits .or .u64 (IntKind.wrap .u64<|(IntKind.wrap .u64<|at' u1<|j1+(v.length:Int))*2^(Int.toNat 32)) (IntKind.wrap .u64<|at' u1<|(j1+(v.length:Int))-1))) O (dP O O<|az (v:=.int .u64 (IntKind.wrap .u64<|at' v<|(v.length:Int)-1)) O (dP O O<|wW O O hg15<|dP O O<|aB (v:=.int .u64 (IntKind.wrap .u64<|Int.tdiv (bits .or .u64 (IntKind.wrap .u64<|(IntKind.wrap .u64<|at' u1<|j1+(v.length:Int))*2^(Int.toNat 32)) (IntKind.wrap .u64<|at' u1<|(j1+(v.length:Int))-1)) (IntKind.wrap .u64<|at' v<|(v.length:Int)-1))) O (dP O O<|aB (v:=.int .u64 (Int.tmod (bits .or .u64 (IntKind.wrap .u64<|(IntKind.wrap .u64<|at' u1<|j1+(v.length:Int))*2^(Int.toNat 32)) (IntKind.wrap .u64<|at' u1<|(j1+(v.length:Int))-1)) (IntKind.wrap .u64<|at' v<|(v.length:Int)-1))) O (dN ?_))))))
  refine jgZ (γ:=Nat×Nat) h (λy=>aQ [(4,.sl 1 rg 81 y.2.2 0 q.length),(9,iZ n),(10,ae v),(11,.sl 1 rg 61 y.2.1 0 u1.length),(12,.int .u64 (IntKind.wrap .u64<|at' v<|(v.length:Int)-1)),(13,.int .u64 (IntKind.wrap .u64<|at' v<|(v.length:Int)-2)),(14,iZ j1),(16,.int .u64 y.1)]) (λy=>stL S rg [(61,.arr 1 (List.map (AV.int .u32) u1),y.2.1),(81,.arr 1 (List.map (AV.int .u32) q),y.2.2)]) (λy h=>?_) (λ_ h=>?_)
  ·obtain⟨guess,⟨g5,g6⟩⟩:=y
   refine jgZ (γ:=Nat×Nat) h (λy=>aQ [(4,.sl 1 rg 81 y.2.2 0 q.length),(9,iZ n),(10,ae v),(11,.sl 1 rg 61 y.2.1 0 y.1.2.length),(12,.int .u64 (IntKind.wrap .u64<|at' v<|(v.length:Int)-1)),(13,.int .u64 (IntKind.wrap .u64<|at' v<|(v.length:Int)-2)),(14,iZ j1),(16,.int .u64 y.1.1)]) (λy=>stL S rg [(61,.arr 1 (List.map (AV.int .u32) y.1.2),y.2.1),(81,.arr 1 (List.map (AV.int .u32) q),y.2.2)]) (λy h=>?_) (λ_ h=>?_)
   ·obtain⟨⟨guess1,u2⟩,⟨g7,g8⟩⟩:=y
    exact rZ<|mvZ (.sl 1 rg 81 g8 0 q.length) O<|mvZ (iZ j1) O<|mvZ (.int .u64 guess1) O<|aa<|bj bT bN O<|tkZ h (λhi2 h=>aa<|bL aO aR dZ O O hi2<|aa<|b7 (aZ 81 O) aR dZ (x':=(IntKind.wrap .u32 guess1)) (λ_=>O) O O (dh hi2 lzZ) O O aY<|nZ<|rZ<|mvZ (iZ j1) O<|tkZ h (λhg16 h=>aa<|bo O O hg16<|asZ (iZ<|j1-1) O<|nZ<|⟨(((j1-1),u2,(b8 q j1<|IntKind.wrap .u32 guess1)),(g7,g8)),(ap (fc (VW.slen lzZ)<|aE<|fZ<|fZ<|fn)<|sc O<|sc O<|sn),h⟩))
   refine af<|mvZ (.sl 1 rg 61 g5 0 u1.length) O<|mvZ (iZ j1) O<|mvZ (iZ j1) O<|mvZ (ae v) O<|aa<|aG aO O<|tkZ h (λhg17 h=>aa<|aF O O hg17<|tkZ h (λhg18 h=>aa<|aF O O hg18<|tkZ h (λhsl h=>aa<|tg aO aR dZ O (l:=j1) (h:=((j1+(v.length:Int))+1)) O O hsl (mvZ (ae v) O<|mvZ (.int .u64 guess) O<|aa<|clZ O<|v5 (qR<|aZ 61 O)<|nL h λu3 r5 h=>mB aY<|tkZ h (λhl h=>nZ<|cZ h O (λhb4 h=>?_) (λhb4 h=>?_))))))
   ·exact af<|mvZ (.int .u64 guess) O<|aa<|lQ O O<|asZ (.int .u64<|IntKind.wrap .u64<|guess-1) O<|nZ<|rZ<|mvZ (.sl 1 rg 61 g5 0 u1.length) O<|mvZ (iZ j1) O<|mvZ (iZ j1) O<|mvZ (ae v) O<|aa<|aG aO O<|tkZ h (λhg19 h=>aa<|aF O O hg19<|tkZ h (λhg20 h=>aa<|aF O O hg20<|tkZ h (λhsl1 h=>aa<|tg aO aR dZ O (l:=j1) (h:=((j1+(v.length:Int))+1)) O O hsl1 (mvZ (ae v) O<|aa<|clZ O<|v5 (qR<|aZ 61 O)<|nN h λu4 h=>mB aY<|tkZ h (λhl1 h=>nZ<|⟨(((IntKind.wrap .u64<|guess-1),u4),(g5,g6)),(ap (fZ<|fZ<|fZ<|fc (VW.slen lzZ)<|aE<|fn)<|sc O<|sc O<|sn),h⟩)))))
   exact kZ<|⟨((guess,u3),(g5,g6)),(ap (fZ<|fZ<|fZ<|fc (VW.slen lzZ)<|aE<|fn)<|sc O<|sc O<|sn),h⟩
  refine bZ<|lgZ h (g3,g4) (λy=>aQ [(4,.sl 1 rg 81 y.2.2 0 q.length),(9,iZ n),(10,ae v),(11,.sl 1 rg 61 y.2.1 0 u1.length),(12,.int .u64 (IntKind.wrap .u64<|at' v<|(v.length:Int)-1)),(13,.int .u64 (IntKind.wrap .u64<|at' v<|(v.length:Int)-2)),(14,iZ j1),(16,.int .u64 y.1.1),(17,.int .u64 y.1.2)]) (λy=>stL S rg [(61,.arr 1 (List.map (AV.int .u32) u1),y.2.1),(81,.arr 1 (List.map (AV.int .u32) q),y.2.2)]) (ap (aE<|aE<|fZ<|fn)<|sc O<|sc O<|sn) (λy _ h=>?_)
  obtain⟨⟨guess2,rest⟩,⟨g9,g10⟩⟩:=y
  refine jgZ (γ:=Nat×Nat) h (λy=>aQ [(4,.sl 1 rg 81 y.2.2 0 q.length),(9,iZ n),(10,ae v),(11,.sl 1 rg 61 y.2.1 0 u1.length),(12,.int .u64 (IntKind.wrap .u64<|at' v<|(v.length:Int)-1)),(13,.int .u64 (IntKind.wrap .u64<|at' v<|(v.length:Int)-2)),(14,iZ j1),(16,.int .u64 guess2),(17,.int .u64 rest)]) (λy=>stL S rg [(61,.arr 1 (List.map (AV.int .u32) u1),y.2.1),(81,.arr 1 (List.map (AV.int .u32) q),y.2.2)]) (λy h=>?_) (λ_ h=>?_)
  ·obtain⟨_,⟨g11,g12⟩⟩:=y
   refine bZ<|af<|mvZ (.int .u64 guess2) O<|aa<|lQ O O<|asZ (.int .u64<|IntKind.wrap .u64<|guess2-1) O<|aU<|mvZ (.int .u64 rest) O<|mvZ (.int .u64<|IntKind.wrap .u64<|at' v<|(v.length:Int)-1) O<|aa<|jP O O<|stZ h (λrest1 hs2 h=>wZ rg<|aB (v:=.int .u64 rest1) (by subst hs2;rfl)<|aU<|mvZ (.int .u64 rest1) O<|aa<|dI O O<|nZ<|cZ h O (λhb5 h=>?_) (λhb5 h=>?_))
   ·exact xnZ O<|tM<|⟨((IntKind.wrap .u64<|guess2-1),(g11,g12)),(ap (aE<|aE<|fn)<|sc O<|sc O<|sn),h⟩
   exact kZ<|⟨(((IntKind.wrap .u64<|guess2-1),rest1),(g11,g12)),(ap (aE<|aE<|fZ<|fn)<|sc O<|sc O<|sn),h⟩
  refine af<|mvZ (.int .u64 guess2) O<|aa<|dI O O<|mvZ (.bool<|decide<|4294967296<=guess2) O<|gfZ h O O (λhb6 h=>?_) (λhb6 h=>?_)
  ·refine mvZ (.int .u64 guess2) O<|gTZ O O hb6<|mvZ (.int .u64<|IntKind.wrap .u64<|at' v<|(v.length:Int)-2) O<|gTZ O O hb6<|aa<|tk O O<|gTZ O O hb6<|mvZ (.int .u64 rest) O<|gTZ O O hb6<|aa<|kT O O dZ<|gTZ O O hb6<|mvZ (.sl 1 rg 61 g9 0 u1.length) O<|gTZ O O hb6<|mvZ (iZ j1) O<|gTZ O O hb6<|mvZ (ae v) O<|gTZ O O hb6<|aa<|aG aO O<|gTZ O O hb6<|tkZ h (λhg21 h=>aa<|aF O O hg21<|gTZ O O hb6<|tkZ h (λhg22 h=>aa<|bo O O hg22<|gTZ O O hb6<|tkZ h (λhi3 h=>aa<|bL aO aR dZ O O hi3<|gTZ O O hb6<|aa<|c_ (aZ 61 O) aR cD O (dh hi3 lzZ) O (v:=.int .u32 (at' u1<|(j1+(v.length:Int))-2)) O (gTZ O O hb6<|aa<|bj bN bT O<|gTZ O O hb6<|aa<|qz O O<|gTZ O O hb6<|aa<|dp O O<|aa<|aJ O hb6 (v:=.bool (decide<|(bits .or .u64 (IntKind.wrap .u64<|rest*2^(Int.toNat 32))<|IntKind.wrap .u64<|at' u1<|(j1+(v.length:Int))-2)<(IntKind.wrap .u64<|guess2*(IntKind.wrap .u64<|at' v<|(v.length:Int)-2)))) O (nZ<|cZ h O (λhb7 h=>?_) (λhb7 h=>?_))))))
   ·exact kZ<|⟨((),(g9,g10)),(ap (aE<|aE<|fZ<|fn)<|sc O<|sc O<|sn),h⟩
   exact xsZ<|⟨(guess2,(g9,g10)),(ap (aE<|aE<|fn)<|sc O<|sc O<|sn),h⟩
  exact gFZ O O hb6 O<|gFZ O O hb6 O<|gFZ O O hb6 O<|gFZ O O hb6 O<|gFZ O O hb6 O<|gFZ O O hb6 O<|gFZ O O hb6 O<|gFZ O O hb6 O<|gFZ O O hb6 O<|gFZ O O hb6 O<|gFZ O O hb6 O<|gFZ O O hb6 O<|gFZ O O hb6 O<|gFZ O O hb6 O<|gFZ O O hb6 O<|aa<|aI O hb6 (v:=.bool true) O<|nZ<|cTZ O O<|kZ<|⟨((),(g9,g10)),(ap (aE<|aE<|fZ<|fn)<|sc O<|sc O<|sn),h⟩
 exact xsZ<|af<|mvZ (.sl 1 rg 81 g4 0 q.length) O<|fI (bi (k:=81) (xs:=List.map (AV.int .u32) q) O (es:=[(9,iZ n),(11,.sl 1 rg 61 g3 0 u1.length),(169,ae q)]) (fZ<|fc (i9 O)<|fc (bf O)<|fn) (m:=[(61,.arr 1 (List.map (AV.int .u32) u1),g3)]) (sc O<|sn)) (aa<|clZ O<|bq h λq1 h=>mvZ (.sl 1 rg 61 g3 0 u1.length) O<|mvZ (iZ n) O<|fI (bi (k:=61) (xs:=List.map (AV.int .u32) u1) O (es:=[(170,ae q1),(171,ae u1),(172,iZ n)]) (fZ<|fc (bf O)<|fZ<|fn) (m:=[]) (sn)) (aa<|clZ O<|mY h λr6 h=>aa<|clZ O<|bq h λr7 h=>asZ (ae q1) O<|asZ (ae r7) O<|asZ .niface O<|aD<|aw (v:=ae q1) O<|aw (v:=ae r7) O<|aw (v:=.niface) O<|aH<|aK hrg (VW.tupL<|vZ<|vZ<|vZ<|vn)<|hQ _ _ _ h))
theorem kv {a:List Int} {b:List Int} {Q:List Int->Prop} (h:gK a b Q) (hQ:∀r1,Q r1->R (ae r1) S) :
  Ctr Tryz.prog 242 [ae a,ae b] S R:=by
 refine aL Tryz.func242 rfl Tryz.ntmps242 Tryz.results242 krZ (λrg hrg=>?_)
 refine af<|asZ .nil O<|aU<|mvZ (ae a) O<|aa<|clZ O<|bq h λa1 h=>mvZ (ae b) O<|aa<|clZ O<|bq h λb1 h=>asZ (ae a1) O<|asZ (ae b1) O<|nZ<|qZ<|bZ<|lpZ h (λy=>aQ [(0,ae y.1),(1,ae y.2)]) (λy=>stL S rg []) (ap (fZ<|fZ<|fn)<|sn) (λy _ h=>?_)
 obtain⟨a2,b2⟩:=y
 refine qZ<|af<|mvZ (ae b2) O<|aa<|aG aO O<|aa<|dp O O<|nZ<|cZ h O (λhb h=>?_) (λhb h=>?_)
 ·exact kZ<|bZ<|af<|mvZ (ae a2) O<|mvZ (ae b2) O<|aa<|clZ O<|ii h λr r1 r2 h=>mvZ (.tuple [ae r,ae r1,bc 82 r2]) O<|aa<|ah (v:=ae r) O O O<|aa<|ah (v:=ae r1) O O O<|aa<|ah (v:=bc 82 r2) O O O<|asZ (ae r) O<|asZ (ae r1) O<|asZ (bc 82 r2) O<|nZ<|rZ<|mvZ (ae b2) O<|mvZ (ae r1) O<|asZ (ae b2) O<|asZ (ae r1) O<|nZ<|⟨(b2,r1),(ap (fZ<|fZ<|fn)<|sn),h⟩
 exact xsZ<|af<|mvZ (ae a2) O<|asZ (ae a2) O<|aD<|gv1 hrg<|hQ _ h
theorem cS {a:List Int} {b:List Int} {Q:List Int->Prop} (h:cw a b Q) (hQ:∀r1,Q r1->R (ae r1) S) :
  Ctr Tryz.prog 164 [ae a,ae b] S R:=by
 refine aL Tryz.func164 rfl Tryz.ntmps164 Tryz.results164 krZ (λrg hrg=>?_)
 refine af<|asZ .nil O<|aU<|mvZ (ae a) O<|aa<|aG aO O<|mvZ (ae b) O<|aa<|aG aO O<|tkZ h (λhg h=>aa<|aF O O hg<|tkZ h (λhg1 h=>wZ rg<|ig aO dF cJ (enc:=AV.int .u32) (z':=0) bR (kk:=1) O O O hg1 (λg1=>asZ (.sl 1 rg 16 g1 0<|Int.toNat<|(a.length:Int)+(b.length:Int)) O (nZ<|qZ<|af<|mvZ (ae a) O<|aa<|aG aO O<|mvZ (iZ 0) O<|nZ<|bZ<|lpZ h (λy=>aQ [(1,ae b),(5,.sl 1 rg 16 g1 0 y.2.length),(17,ae a),(18,iZ (a.length:Int)),(19,iZ y.1)]) (λy=>stL S rg [(16,.arr 1 (List.map (AV.int .u32) y.2),g1)]) (ap (fZ<|fc (VW.slen lzZ)<|fZ<|fZ<|fZ<|fn)<|sc O<|sn) (λy _ h=>?_)))))
 obtain⟨x,out⟩:=y
 refine af<|aa<|a9 O O<|nZ<|qZ<|cZ h O (λhb h=>?_) (λhb h=>?_)
 ·refine kZ<|qZ<|bZ<|af<|mvZ (iZ x) O<|tkZ h (λhg2 h=>aa<|aV aO aR dZ (λ_=>O) O O hg2<|aa<|a8 aR cD O O (v:=.int .u32 (at' a x)) O<|asZ (iZ x) O<|asZ (.int .u32<|at' a x) O<|aU<|asZ (.int .u64 0) O<|nZ<|qZ<|af<|mvZ (ae b) O<|aa<|aG aO O<|mvZ (iZ 0) O<|nZ<|bZ<|lpZ h (λy=>aQ [(1,ae b),(5,.sl 1 rg 16 g1 0 y.2.2.length),(6,iZ x),(7,.int .u32 (at' a x)),(8,.int .u64 y.1),(17,ae a),(18,iZ (a.length:Int)),(19,iZ x),(24,ae b),(25,iZ (b.length:Int)),(26,iZ y.2.1)]) (λy=>stL S rg [(16,.arr 1 (List.map (AV.int .u32) y.2.2),g1)]) (ap (aE<|aE<|fZ<|fZ<|fZ<|fn)<|sc O<|sn) (λy _ h=>?_))
  obtain⟨carry,x1,out1⟩:=y
  refine af<|aa<|a9 O O<|nZ<|qZ<|cZ h O (λhb1 h=>?_) (λhb1 h=>?_)
  ·refine kZ<|qZ<|bZ<|af<|mvZ (iZ x1) O<|tkZ h (λhg3 h=>aa<|aV aO aR dZ (λ_=>O) O O hg3<|aa<|a8 aR cD O O (v:=.int .u32 (at' b x1)) O<|asZ (iZ x1) O<|asZ (.int .u32<|at' b x1) O<|aU<|mvZ (.int .u64 carry) O<|mvZ (.int .u32<|at' a x) O<|aa<|bj bN bT O<|mvZ (.int .u32<|at' b x1) O<|aa<|bj bN bT O<|aa<|tk O O<|mvZ (.sl 1 rg 16 g1 0 out1.length) O<|mvZ (iZ x) O<|mvZ (iZ x1) O<|tkZ h (λhg4 h=>aa<|aF O O hg4<|tkZ h (λhi h=>aa<|bL aO aR dZ O O hi<|aa<|c_ (aZ 16 O) aR cD O (dh hi lzZ) O (v:=.int .u32 (at' out1<|x+x1)) O (aa<|bj bN bT O<|aa<|jP O O<|aa<|jP O O<|stZ h (λcarry1 hs h=>wZ rg<|aB (v:=.int .u64 carry1) (by subst hs;rfl)<|aU<|mvZ (.sl 1 rg 16 g1 0 out1.length) O<|mvZ (iZ x) O<|mvZ (iZ x1) O<|tkZ h (λhg5 h=>aa<|aF O O hg5<|mvZ (.int .u64 carry1) O<|aa<|bj bT bN O<|tkZ h (λhi1 h=>aa<|bL aO aR dZ O O hi1<|aa<|b7 (aZ 16 O) aR dZ (x':=(IntKind.wrap .u32 carry1)) (λ_=>O) O O (dh hi1 lzZ) O O aY<|nZ<|rZ<|mvZ (.int .u64 carry1) O<|aa<|eb O O dZ<|asZ (.int .u64<|carry1 / 2^(Int.toNat 32)) O<|nZ<|rZ<|tkZ h (λhg6 h=>aa<|aF O O hg6<|mvZ (iZ<|x1+1) O<|nZ ?_))))))))
   exact⟨((carry1 / 2^(Int.toNat 32)),(x1+1),(b8 out1 (x+x1)<|IntKind.wrap .u32 carry1)),(ap (fZ<|fc (VW.slen lzZ)<|aE<|aE<|fZ<|fn)<|sc O<|sn),h⟩
  exact xsZ<|rZ<|mvZ (.sl 1 rg 16 g1 0 out1.length) O<|mvZ (iZ x) O<|mvZ (ae b) O<|aa<|aG aO O<|tkZ h (λhg7 h=>aa<|aF O O hg7<|mvZ (.int .u64 carry) O<|aa<|bj bT bN O<|tkZ h (λhi2 h=>aa<|bL aO aR dZ O O hi2<|aa<|b7 (aZ 16 O) aR dZ (x':=(IntKind.wrap .u32 carry)) (λ_=>O) O O (dh hi2 lzZ) O O aY<|nZ<|rZ<|tkZ h (λhg8 h=>aa<|aF O O hg8<|mvZ (iZ<|x+1) O<|nZ<|⟨((x+1),(b8 out1 (x+(b.length:Int))<|IntKind.wrap .u32 carry)),(ap (fZ<|fc (VW.slen lzZ)<|fZ<|fZ<|fZ<|fn)<|sc O<|sn),h⟩)))
 exact xsZ<|af<|mvZ (.sl 1 rg 16 g1 0 out.length) O<|fI (bi (k:=16) (xs:=List.map (AV.int .u32) out) O (es:=[(65,ae out)]) (fc (bf O)<|fn) (m:=[])<|sn)<|aa<|clZ O<|bq h λr h=>asZ (ae r) O<|aD<|gv1 hrg<|hQ _ h
theorem nO {a:List Int} {Q:Int->Prop} (h:i6 a Q) (hQ:∀r1,Q r1->R (iZ r1) S) :
  Ctr Tryz.prog 241 [ae a] S R:=by
 refine aL Tryz.func241 rfl Tryz.ntmps241 Tryz.results241 krZ (λrg hrg=>?_)
 refine af<|asZ (iZ 0) O<|nZ<|qZ<|af<|mvZ (ae a) O<|aa<|aG aO O<|tkZ h (λhg h=>aa<|bo O O hg<|asZ (iZ<|(a.length:Int)-1) O<|nZ<|bZ<|lpZ h (λy=>aQ [(0,ae a),(3,iZ y)]) (λy=>stL S rg []) (ap (fZ<|fZ<|fn)<|sn) (λi _ h=>qZ<|af<|mvZ (iZ i) O<|aa<|dI O O<|nZ<|cZ h O (λhb h=>?_) (λhb h=>?_)))
 ·refine kZ<|qZ<|bZ<|af<|mvZ (ae a) O<|mvZ (iZ i) O<|tkZ h (λhg1 h=>aa<|aV aO aR dZ (λ_=>O) O O hg1<|aa<|a8 aR cD O O (v:=.int .u32 (at' a i)) O<|aa<|dn O O<|nZ<|cZ h O (λhb1 h=>?_) (λhb1 h=>?_))
  ·exact af<|mvZ (iZ i) O<|tkZ h (λhg2 h=>aa<|rO O O hg2<|mvZ (ae a) O<|mvZ (iZ i) O<|tkZ h (λhg3 h=>aa<|aV aO aR dZ (λ_=>O) O O hg3<|aa<|a8 aR cD O O (v:=.int .u32 (at' a i)) O<|aa<|clZ O<|iz h λr h=>tkZ h (λhg4 h=>aa<|aF O O hg4<|asZ (iZ<|(32*i)+r) O<|aD<|gv1 hrg<|hQ _ h)))
  exact kZ<|rZ<|mvZ (iZ i) O<|tkZ h (λhg5 h=>aa<|bo O O hg5<|asZ (iZ<|i-1) O<|nZ<|⟨(i-1),(ap (fZ<|fZ<|fn)<|sn),h⟩)
 exact xsZ<|af<|asZ (iZ 0) O<|aD<|gv1 hrg<|hQ _ h
theorem oI {a:List Int} {b:List Int} {Q:List Int->Prop} (h:gL a b Q) (hQ:∀r1,Q r1->R (ae r1) S) :
  Ctr Tryz.prog 166 [ae a,ae b] S R:=by
 refine aL Tryz.func166 rfl Tryz.ntmps166 Tryz.results166 krZ (λrg hrg=>?_)
 refine af<|asZ .nil O<|aU<|mvZ (ae a) O<|aa<|aG aO O<|mvZ (ae b) O<|aa<|aG aO O<|aa<|tm O O<|tkZ h (λhg h=>aa<|aF O O hg<|tkZ h (λhg1 h=>wZ rg<|ig aO dF cJ (enc:=AV.int .u32) (z':=0) bR (kk:=1) O O O hg1 (λg1=>asZ (.sl 1 rg 14 g1 0<|Int.toNat<|(max (a.length:Int) (b.length:Int))+1) O (aU<|asZ (.int .u64 0) O<|nZ<|qZ<|af<|mvZ (.sl 1 rg 14 g1 0<|Int.toNat<|(max (a.length:Int) (b.length:Int))+1) O (aa<|dO aO O<|mvZ (iZ 0) O<|nZ<|bZ<|lpZ h (λy=>aQ [(0,ae a),(1,ae b),(5,.sl 1 rg 14 g1 0 y.2.2.length),(6,.int .u64 y.1),(16,iZ ((Int.toNat<|(max (a.length:Int) (b.length:Int))+1):Int)),(17,iZ y.2.1)]) (λy=>stL S rg [(14,.arr 1 (List.map (AV.int .u32) y.2.2),g1)]) (ap (fZ<|fZ<|fc (VW.slen lzZ)<|fZ<|fZ<|fZ<|fn)<|sc O<|sn) (λy _ h=>?_))))))
 obtain⟨carry,x,out⟩:=y
 refine af<|aa<|a9 O O<|nZ<|qZ<|cZ h O (λhb h=>?_) (λhb h=>?_)
 ·exact kZ<|qZ<|bZ<|af<|mvZ (iZ x) O<|asZ (iZ x) O<|aU<|mvZ (.int .u64 carry) O<|mvZ (ae a) O<|mvZ (iZ x) O<|aa<|clZ O<|cp h λr h=>mvZ (ae b) O<|mvZ (iZ x) O<|aa<|clZ O<|cp h λr1 h=>aa<|jP O O<|aa<|jP O O<|stZ h (λcarry1 hs h=>wZ rg<|aB (v:=.int .u64 carry1) (by subst hs;rfl)<|aU<|mvZ (.sl 1 rg 14 g1 0 out.length) O<|mvZ (iZ x) O<|mvZ (.int .u64 carry1) O<|aa<|bj bT bN O<|tkZ h (λhi h=>aa<|bL aO aR dZ O O hi<|aa<|b7 (aZ 14 O) aR dZ (x':=(IntKind.wrap .u32 carry1)) (λ_=>O) O O (dh hi lzZ) O O aY<|nZ<|rZ<|mvZ (.int .u64 carry1) O<|aa<|eb O O dZ<|asZ (.int .u64<|carry1 / 2^(Int.toNat 32)) O<|nZ<|rZ<|tkZ h (λhg2 h=>aa<|aF O O hg2<|mvZ (iZ<|x+1) O<|nZ<|⟨((carry1 / 2^(Int.toNat 32)),(x+1),(b8 out x<|IntKind.wrap .u32 carry1)),(ap (fZ<|fZ<|fc (VW.slen lzZ)<|fZ<|fZ<|fZ<|fn)<|sc O<|sn),h⟩)))
 exact xsZ<|af<|mvZ (.sl 1 rg 14 g1 0 out.length) O<|fI (bi (k:=14) (xs:=List.map (AV.int .u32) out) O (es:=[(37,ae out)]) (fc (bf O)<|fn) (m:=[])<|sn)<|aa<|clZ O<|bq h λr2 h=>asZ (ae r2) O<|aD<|gv1 hrg<|hQ _ h
theorem ku {a:List Int} {b:List Int} {Q:List Int->Option Int->Prop} (h:gJ a b Q) (hQ:∀r1 r2,Q r1 r2->R (.tuple [ae r1,bc 82 r2]) S) :
  Ctr Tryz.prog 168 [ae a,ae b] S R:=by
 refine aL Tryz.func168 rfl Tryz.ntmps168 Tryz.results168 krZ (λrg hrg=>?_)
 refine af<|asZ .nil O<|asZ .niface O<|nZ<|qZ<|af<|mvZ (ae a) O<|mvZ (ae b) O<|aa<|clZ O<|dX h λr h=>aa<|a9 O O<|nZ<|cZ h O (λhb h=>?_) (λhb h=>?_)
 ·exact af<|aa<|cb (by rw[hO];trivial) (v:=iZ 3) O<|asZ .nil O<|asZ (.iface 82<|iZ 3) O<|aD<|aw (v:=.nil) O<|aw (v:=.iface 82 (iZ 3)) O<|aH<|aK hrg (VW.tupL<|vl' (VW.nilL)<|vZ<|vn)<|hQ _ _ h
 refine kZ<|af<|mvZ (ae a) O<|aa<|aG aO O<|tkZ h (λhg h=>wZ rg<|ig aO dF cJ (enc:=AV.int .u32) (z':=0) bR (kk:=1) O O O hg (λg1=>asZ (.sl 1 rg 17 g1 0<|Int.toNat (a.length:Int)) O<|aU<|asZ (.int .u64 0) O<|nZ<|qZ<|af<|mvZ (.sl 1 rg 17 g1 0<|Int.toNat (a.length:Int)) O<|aa<|dO aO O<|mvZ (iZ 0) O<|nZ<|bZ<|lpZ h (λy=>aQ [(0,ae a),(1,ae b),(6,.sl 1 rg 17 g1 0 y.2.2.length),(7,.int .u64 y.1),(19,iZ ((Int.toNat (a.length:Int)):Int)),(20,iZ y.2.1)]) (λy=>stL S rg [(17,.arr 1 (List.map (AV.int .u32) y.2.2),g1)]) (ap (fZ<|fZ<|fc (VW.slen lzZ)<|fZ<|fZ<|fZ<|fn)<|sc O<|sn) (λy _ h=>?_)))
 obtain⟨borrow,x,out⟩:=y
 refine af<|aa<|a9 O O<|nZ<|qZ<|cZ h O (λhb1 h=>?_) (λhb1 h=>?_)
 ·exact kZ<|qZ<|bZ<|af<|mvZ (iZ x) O<|asZ (iZ x) O<|aU<|mvZ (ae a) O<|mvZ (iZ x) O<|aa<|clZ O<|cp h λr1 h=>mvZ (ae b) O<|mvZ (iZ x) O<|aa<|clZ O<|cp h λr2 h=>aa<|lQ O O<|mvZ (.int .u64 borrow) O<|aa<|lQ O O<|stZ h (λd hs h=>wZ rg<|aB (v:=.int .u64 d) (by subst hs;rfl)<|aU<|mvZ (.sl 1 rg 17 g1 0 out.length) O<|mvZ (iZ x) O<|mvZ (.int .u64 d) O<|aa<|bj bT bN O<|tkZ h (λhi h=>aa<|bL aO aR dZ O O hi<|aa<|b7 (aZ 17 O) aR dZ (x':=(IntKind.wrap .u32 d)) (λ_=>O) O O (dh hi lzZ) O O aY<|nZ<|rZ<|mvZ (.int .u64 d) O<|aa<|eb O O dZ<|asZ (.int .u64<|d / 2^(Int.toNat 63)) O<|nZ<|rZ<|tkZ h (λhg1 h=>aa<|aF O O hg1<|mvZ (iZ<|x+1) O<|nZ<|⟨((d / 2^(Int.toNat 63)),(x+1),(b8 out x<|IntKind.wrap .u32 d)),(ap (fZ<|fZ<|fc (VW.slen lzZ)<|fZ<|fZ<|fZ<|fn)<|sc O<|sn),h⟩)))
 exact xsZ<|af<|mvZ (.sl 1 rg 17 g1 0 out.length) O<|fI (bi (k:=17) (xs:=List.map (AV.int .u32) out) O (es:=[(40,ae out)]) (fc (bf O)<|fn) (m:=[])<|sn)<|aa<|clZ O<|bq h λr3 h=>asZ (ae r3) O<|asZ .niface O<|aD<|aw (v:=ae r3) O<|aw (v:=.niface) O<|aH<|aK hrg (VW.tupL<|vZ<|vZ<|vn)<|hQ _ _ h
end Go.Proofs.YtnjgdkfhgmebjaaGreat
namespace Go.Proofs.YtnjgdkfhgmebjaaGreat
open Go.Gg
set_option maxRecDepth 100000
variable {S:St} {R:AV->St->Prop}
theorem iX {a:List Int} {Q:Int->Prop} (h:fW a Q) (hQ:∀r1,Q r1->R (iZ r1) S) :
  Ctr Tryz.prog 189 [ae a] S R:=by
 refine aL Tryz.func189 rfl Tryz.ntmps189 Tryz.results189 krZ (λrg hrg=>?_)
 refine af<|asZ (iZ 0) O<|aU<|asZ (iZ 0) O<|nZ<|qZ<|af<|mvZ (ae a) O<|aa<|aG aO O<|mvZ (iZ 0) O<|nZ<|bZ<|lpZ h (λy=>aQ [(3,iZ y.1),(7,ae a),(8,iZ (a.length:Int)),(9,iZ y.2)]) (λy=>stL S rg []) (ap (aE<|fn)<|sn) (λy _ h=>?_)
 obtain⟨n,x⟩:=y
 refine af<|aa<|a9 O O<|nZ<|qZ<|cZ h O (λhb h=>?_) (λhb h=>?_)
 ·refine kZ<|qZ<|bZ<|af<|mvZ (iZ x) O<|tkZ h (λhg h=>aa<|aV aO aR dZ (λ_=>O) O O hg<|aa<|a8 aR cD O O (v:=.int .u32 (at' a x)) O<|asZ (iZ x) O<|asZ (.int .u32<|at' a x) O<|aU<|mvZ (iZ 0) O<|nZ<|bZ<|lpZ h (λy=>aQ [(3,iZ y.1),(4,iZ x),(5,.int .u32 (at' a x)),(7,ae a),(8,iZ (a.length:Int)),(9,iZ x),(14,iZ y.2)]) (λy=>stL S rg []) (ap (aE<|fZ<|fZ<|fZ<|fn)<|sn) (λy _ h=>?_))
  obtain⟨n1,x1⟩:=y
  refine af<|aa<|a9 O O<|nZ<|qZ<|cZ h O (λhb1 h=>?_) (λhb1 h=>?_)
  ·refine kZ<|qZ<|bZ<|af<|mvZ (iZ x1) O<|asZ (iZ x1) O<|aU<|mvZ (.int .u32<|at' a x) O<|mvZ (iZ x1) O<|tkZ h (λhg1 h=>aa<|eb O O hg1<|aa<|mT O O<|aa<|br O O<|nZ<|cZ h O (λhb2 h=>?_) (λhb2 h=>?_))
   ·exact rZ<|mvZ (iZ x) O<|tkZ h (λhg2 h=>aa<|rO O O hg2<|mvZ (iZ x1) O<|tkZ h (λhg3 h=>aa<|aF O O hg3<|tkZ h (λhg4 h=>aa<|aF O O hg4<|asZ (iZ<|((32*x)+x1)+1) O (nZ<|rZ<|tkZ h (λhg5 h=>aa<|aF O O hg5<|mvZ (iZ<|x1+1) O<|nZ<|⟨((((32*x)+x1)+1),(x1+1)),(ap (aE<|fZ<|fZ<|fZ<|fn)<|sn),h⟩)))))
   exact kZ<|rZ<|tkZ h (λhg6 h=>aa<|aF O O hg6<|mvZ (iZ<|x1+1) O<|nZ<|⟨(n1,(x1+1)),(ap (aE<|fZ<|fZ<|fZ<|fn)<|sn),h⟩)
  exact xsZ<|rZ<|tkZ h (λhg7 h=>aa<|aF O O hg7<|mvZ (iZ<|x+1) O<|nZ<|⟨(n1,(x+1)),(ap (aE<|fn)<|sn),h⟩)
 exact xsZ<|af<|mvZ (iZ n) O<|asZ (iZ n) O<|aD<|gv1 hrg<|hQ _ h
theorem b9 {a:List Int} {Q:List Int->Prop} (h:ca a Q) (hQ:∀r1,Q r1->R (ae r1) S) :
  Ctr Tryz.prog 188 [ae a] S R:=by
 refine aL Tryz.func188 rfl Tryz.ntmps188 Tryz.results188 krZ (λrg hrg=>?_)
 refine af<|asZ .nil O<|aU<|mvZ (ae a) O<|aa<|aG aO O<|asZ (iZ (a.length:Int)) O<|nZ<|jnZ h (λy=>aQ [(0,ae a),(3,iZ y)]) (λy=>stL S rg []) (λn h=>?_) (λ_ h=>?_)
 ·exact af<|wZ rg<|ba aO cJ bR (es:=[]) O (kk:=1) O O O O O O (λg1=>mvZ (ae a) O<|mvZ (iZ n) O<|tkZ h (λhg h=>aa<|mS aO aR dZ (λ_=>O) O (l:=0) (h:=n) O O hg<|tkZ h (λhg1 h=>wZ rg<|ck aO dF cJ bR (es:=([]:List Int)) (xs:=(gn a 0 n)) (enc:=AV.int .u32) (aZ 18 O) lzZ (O) (kk:=1) O O (λ_=>O) (λ_=>O) hg1 O (λ_=>aY) (λg2=>asZ (.sl 1 rg 18 g2 0<|(([]:List Int)++(gn a 0 n)).length) O (aD<|aw (v:=.sl 1 rg 18 g2 0 ((([]:List Int)++(gn a 0 n)).length)) O (aH<|bk (k:=18) (xs:=List.map (AV.int .u32) (([]:List Int)++(gn a 0 n))) O (v':=ae (([]:List Int)++(gn a 0 n))) (bf O) (goZ hrg<|hQ _ h)))))))
 refine bZ<|lpZ h (λy=>aQ [(0,ae a),(3,iZ y)]) (λy=>stL S rg []) (ap (fZ<|fZ<|fn)<|sn) (λn1 _ h=>qZ<|af<|mvZ (iZ n1) O<|aa<|dp O O<|mvZ (.bool<|decide<|0<n1) O<|gtZ h O O (λhb h=>?_) (λhb h=>?_))
 ·refine mvZ (ae a) O<|gTZ O O hb<|mvZ (iZ n1) O<|gTZ O O hb<|tkZ h (λhg2 h=>aa<|bo O O hg2<|gTZ O O hb<|tkZ h (λhg3 h=>aa<|aV aO aR dZ (λ_=>O) O O hg3<|gTZ O O hb<|aa<|a8 aR cD O O (v:=.int .u32 (at' a<|n1-1)) O (gTZ O O hb<|aa<|br O O<|aa<|aI O hb (v:=.bool ((at' a<|n1-1) == 0)) O (nZ<|cZ h O (λhb1 h=>?_) (λhb1 h=>?_)))))
  ·exact kZ<|bZ<|rZ<|mvZ (iZ n1) O<|tkZ h (λhg4 h=>aa<|bo O O hg4<|asZ (iZ<|n1-1) O<|nZ<|⟨(n1-1),(ap (fZ<|fZ<|fn)<|sn),h⟩)
  exact xsZ<|⟨n1,(ap (fZ<|fZ<|fn)<|sn),h⟩
 exact gFZ O O hb O<|gFZ O O hb O<|gFZ O O hb O<|gFZ O O hb O<|gFZ O O hb O<|aa<|aJ O hb (v:=.bool false) O<|nZ<|cFZ O O<|xsZ<|⟨n1,(ap (fZ<|fZ<|fn)<|sn),h⟩
theorem bw {a:List Int} {i:Int} {Q:Int->Prop} (h:bB a i Q) (hQ:∀r1,Q r1->R (AV.int .u64 r1) S) :
  Ctr Tryz.prog 187 [ae a,iZ i] S R:=by
 refine aL Tryz.func187 rfl Tryz.ntmps187 Tryz.results187 krZ (λrg hrg=>?_)
 refine af<|asZ (.int .u64 0) O<|nZ<|qZ<|af<|mvZ (iZ i) O<|mvZ (ae a) O<|aa<|aG aO O<|aa<|a9 O O<|nZ<|cZ h O (λhb h=>?_) (λhb h=>?_)
 ·exact af<|mvZ (ae a) O<|mvZ (iZ i) O<|tkZ h (λhg h=>aa<|aV aO aR dZ (λ_=>O) O O hg<|aa<|a8 aR cD O O (v:=.int .u32 (at' a i)) O<|aa<|bj bN bT O<|asZ (.int .u64<|IntKind.wrap .u64<|at' a i) O<|aD<|gv1 hrg<|hQ _ h)
 exact kZ<|af<|asZ (.int .u64 0) O<|aD<|gv1 hrg<|hQ _ h
theorem cY {a:List Int} {b:List Int} {Q:List Int->Prop} (h:cN a b Q) (hQ:∀r1,Q r1->R (ae r1) S) :
  Ctr Tryz.prog 112 [ae a,ae b] S R:=by
 refine aL Tryz.func112 rfl Tryz.ntmps112 Tryz.results112 krZ (λrg hrg=>?_)
 refine af<|asZ .nil O<|aU<|mvZ (ae a) O<|aa<|aG aO O<|mvZ (ae b) O<|aa<|aG aO O<|tkZ h (λhg h=>aa<|aF O O hg<|tkZ h (λhg1 h=>aa<|aF O O hg1<|tkZ h (λhg2 h=>wZ rg<|ig aO dF cJ (enc:=AV.int .u32) (z':=0) bR (kk:=1) O O O hg2 (λg1=>asZ (.sl 1 rg 17 g1 0<|Int.toNat<|((a.length:Int)+(b.length:Int))+1) O (nZ<|qZ<|af<|mvZ (ae a) O<|aa<|aG aO O<|mvZ (iZ 0) O<|nZ<|bZ<|lpZ h (λy=>aQ [(1,ae b),(5,.sl 1 rg 17 g1 0 y.2.length),(18,ae a),(19,iZ (a.length:Int)),(20,iZ y.1)]) (λy=>stL S rg [(17,.arr 1 (List.map (AV.int .u32) y.2),g1)]) (ap (fZ<|fc (VW.slen lzZ)<|fZ<|fZ<|fZ<|fn)<|sc O<|sn) (λy _ h=>?_))))))
 obtain⟨x,out⟩:=y
 refine af<|aa<|a9 O O<|nZ<|qZ<|cZ h O (λhb h=>?_) (λhb h=>?_)
 ·refine kZ<|qZ<|bZ<|af<|mvZ (iZ x) O<|tkZ h (λhg3 h=>aa<|aV aO aR dZ (λ_=>O) O O hg3<|aa<|a8 aR cD O O (v:=.int .u32 (at' a x)) O<|asZ (iZ x) O<|asZ (.int .u32<|at' a x) O<|aU<|asZ (.int .u64 0) O<|aU<|mvZ (ae b) O<|aa<|aG aO O<|tkZ h (λhg4 h=>aa<|aF O O hg4<|mvZ (iZ 0) O<|nZ<|bZ<|lpZ h (λy=>aQ [(1,ae b),(5,.sl 1 rg 17 g1 0 y.2.2.length),(6,iZ x),(7,.int .u32 (at' a x)),(8,.int .u64 y.1),(18,ae a),(19,iZ (a.length:Int)),(20,iZ x),(27,iZ ((b.length:Int)+1)),(28,iZ y.2.1)]) (λy=>stL S rg [(17,.arr 1 (List.map (AV.int .u32) y.2.2),g1)]) (ap (aE<|aE<|fZ<|fZ<|fn)<|sc O<|sn) (λy _ h=>?_)))
  obtain⟨carry,x1,out1⟩:=y
  refine af<|aa<|a9 O O<|nZ<|qZ<|cZ h O (λhb1 h=>?_) (λhb1 h=>?_)
  ·refine kZ<|qZ<|bZ<|af<|mvZ (iZ x1) O<|asZ (iZ x1) O<|nZ<|qZ ?_
   obtain⟨r,hc,h⟩:=h
   refine tkZ h (λhg5 h=>tkZ h (λhi h=>Vc.drawn' bz rg (eZ [(4,pc (.int .u64 r))]) krZ<|dP O O<|az (v:=.int .u32 (at' a x)) O<|dP O O<|bj bN bT O<|dP O O<|az (v:=ae b) O<|dP O O<|az (v:=iZ x1) O<|dC (vs:=[ae b,iZ x1]) O (vZ<|vZ<|vn) (λ_=>bw hc (λ_ hr=>⟨by rw[hr],rfl⟩)) O<|dP O O<|tk O O<|dP O O<|az (v:=.sl 1 rg 17 g1 0 out1.length) O<|dP O O<|az (v:=iZ x) O<|dP O O<|az (v:=iZ x1) O<|dP O O<|aF O O hg5<|dP O O<|bL aO aR dZ O O hi<|dL (E:=([(rg,17)],[])) O O (by simp) (cfn) (c_ (aZ 17 O) aR cD O (dh hi lzZ) O (v:=.int .u32 (at' out1<|x+x1)) O (dP O O<|bj bN bT O<|dP O O<|jP O O<|dP O O<|az (v:=.int .u64 carry) O<|dP O O<|jP O O<|dP O O<|aB (v:=.int .u64 (IntKind.wrap .u64<|(IntKind.wrap .u64<|(IntKind.wrap .u64<|(IntKind.wrap .u64<|at' a x)*r)+(IntKind.wrap .u64<|at' out1<|x+x1))+carry)) O (dN<|af<|mvZ (.sl 1 rg 17 g1 0 out1.length) O<|mvZ (iZ x) O<|mvZ (iZ x1) O<|tkZ h (λhg6 h=>aa<|aF O O hg6<|mvZ (.int .u64<|IntKind.wrap .u64<|(IntKind.wrap .u64<|(IntKind.wrap .u64<|(IntKind.wrap .u64<|at' a x)*r)+(IntKind.wrap .u64<|at' out1<|x+x1))+carry) O (aa<|bj bT bN O<|tkZ h (λhi1 h=>aa<|bL aO aR dZ O O hi1 ?_))))))))
   exact aa<|b7 (aZ 17 O) aR dZ (x':=(IntKind.wrap .u32<|IntKind.wrap .u64<|(IntKind.wrap .u64<|(IntKind.wrap .u64<|(IntKind.wrap .u64<|at' a x)*r)+(IntKind.wrap .u64<|at' out1<|x+x1))+carry)) (λ_=>O) O O (dh hi1 lzZ) O O aY<|nZ<|rZ<|mvZ (.int .u64<|IntKind.wrap .u64<|(IntKind.wrap .u64<|(IntKind.wrap .u64<|(IntKind.wrap .u64<|at' a x)*r)+(IntKind.wrap .u64<|at' out1<|x+x1))+carry) O (aa<|eb O O dZ<|stZ h (λcarry1 hs h=>wZ rg<|aB (v:=.int .u64 carry1) (by subst hs;rfl)<|nZ<|rZ<|tkZ h (λhg7 h=>aa<|aF O O hg7<|mvZ (iZ<|x1+1) O<|nZ<|⟨(carry1,(x1+1),(b8 out1 (x+x1)<|IntKind.wrap .u32<|IntKind.wrap .u64<|(IntKind.wrap .u64<|(IntKind.wrap .u64<|(IntKind.wrap .u64<|at' a x)*r)+(IntKind.wrap .u64<|at' out1<|x+x1))+carry)),(ap (fZ<|fc (VW.slen lzZ)<|aE<|aE<|fn)<|sc O<|sn),h⟩)))
  exact xsZ<|rZ<|tkZ h (λhg8 h=>aa<|aF O O hg8<|mvZ (iZ<|x+1) O<|nZ<|⟨((x+1),out1),(ap (aE<|fZ<|fn)<|sc O<|sn),h⟩)
 exact xsZ<|af<|mvZ (.sl 1 rg 17 g1 0 out.length) O<|fI (bi (k:=17) (xs:=List.map (AV.int .u32) out) O (es:=[(58,ae out)]) (fc (bf O)<|fn) (m:=[])<|sn)<|aa<|clZ O<|b9 h λr1 h=>asZ (ae r1) O<|aD<|gv1 hrg<|hQ _ h
theorem jE {a:List Int} {b:List Int} {Q:Int->Prop} (h:fG a b Q) (hQ:∀r1,Q r1->R (iZ r1) S) :
  Ctr Tryz.prog 115 [ae a,ae b] S R:=by
 refine aL Tryz.func115 rfl Tryz.ntmps115 Tryz.results115 krZ (λrg hrg=>?_)
 refine af<|asZ (iZ 0) O<|nZ<|qZ<|af<|mvZ (ae a) O<|aa<|aG aO O<|mvZ (ae b) O<|aa<|aG aO O<|aa<|tm O O<|tkZ h (λhg h=>aa<|bo O O hg<|stZ h (λi hs h=>wZ rg<|aB (v:=iZ i) (by subst hs;rfl)<|nZ<|bZ<|lpZ h (λy=>aQ [(0,ae a),(1,ae b),(5,iZ y)]) (λy=>stL S rg []) (ap (fZ<|fZ<|fZ<|fn)<|sn) (λi1 _ h=>qZ<|af<|mvZ (iZ i1) O<|aa<|dI O O<|nZ<|cZ h O (λhb h=>?_) (λhb h=>?_))))
 ·refine kZ<|qZ<|bZ<|qZ<|af<|mvZ (ae a) O<|mvZ (iZ i1) O<|aa<|clZ O<|bw h λr h=>mvZ (ae b) O<|mvZ (iZ i1) O<|aa<|clZ O<|bw h λr1 h=>aa<|a9 O O<|nZ<|cZ h O (λhb1 h=>?_) (λhb1 h=>?_)
  ·exact af<|asZ (iZ<|-1) O<|aD<|gv1 hrg<|hQ _ h
  refine kZ<|af<|mvZ (ae a) O<|mvZ (iZ i1) O<|aa<|clZ O<|bw h λr2 h=>mvZ (ae b) O<|mvZ (iZ i1) O<|aa<|clZ O<|bw h λr3 h=>aa<|dp O O<|nZ<|cZ h O (λhb2 h=>?_) (λhb2 h=>?_)
  ·exact af<|asZ (iZ 1) O<|aD<|gv1 hrg<|hQ _ h
  exact kZ<|rZ<|mvZ (iZ i1) O<|tkZ h (λhg1 h=>aa<|bo O O hg1<|asZ (iZ<|i1-1) O<|nZ<|⟨(i1-1),(ap (fZ<|fZ<|fZ<|fn)<|sn),h⟩)
 exact xsZ<|af<|asZ (iZ 0) O<|aD<|gv1 hrg<|hQ _ h
theorem jC {a:List Int} {b:List Int} {Q:List Int->Int->Prop} (h:gU a b Q) (hQ:∀r1 r2,Q r1 r2->R (.tuple [ae r1,iZ r2]) S) :
  Ctr Tryz.prog 116 [ae a,ae b] S R:=by
 refine aL Tryz.func116 rfl Tryz.ntmps116 Tryz.results116 krZ (λrg hrg=>?_)
 refine af<|asZ .nil O<|asZ (iZ 0) O<|nZ<|qZ<|af<|mvZ (ae a) O<|mvZ (ae b) O<|aa<|clZ O<|jE h λr h=>aa<|a9 O O<|nZ<|cZ h O (λhb h=>?_) (λhb h=>?_)
 ·exact af<|asZ .nil O<|asZ (iZ 3) O<|aD<|aw (v:=.nil) O<|aw (v:=iZ 3) O<|aH<|aK hrg (VW.tupL<|vl' (VW.nilL)<|vZ<|vn)<|hQ _ _ h
 refine kZ<|af<|asZ .nil O<|aU<|asZ (.int .u64 0) O<|nZ<|qZ<|af<|mvZ (ae a) O<|aa<|aG aO O<|mvZ (iZ 0) O<|nZ<|bZ<|Vc.mat 6 32 1 O dZ (λg1=>lgZ h g1 (λy=>aQ [(0,ae a),(1,ae b),(6,.sl 1 rg 32 y.2 0 y.1.2.2.length),(7,.int .u64 y.1.1),(15,iZ (a.length:Int)),(16,iZ y.1.2.1)]) (λy=>stL S rg [(32,.arr 1 (List.map (AV.int .u32) y.1.2.2),y.2)]) (ap (fZ<|fZ<|fc (VW.slen lzZ)<|fZ<|fZ<|fZ<|fn)<|sc O<|sn) (λy _ h=>?_))
 obtain⟨⟨borrow,x,out⟩,g2⟩:=y
 refine af<|aa<|a9 O O<|nZ<|qZ<|cZ h O (λhb1 h=>?_) (λhb1 h=>?_)
 ·exact kZ<|qZ<|bZ<|af<|mvZ (iZ x) O<|asZ (iZ x) O<|aU<|mvZ (ae a) O<|mvZ (iZ x) O<|aa<|clZ O<|bw h λr1 h=>mvZ (ae b) O<|mvZ (iZ x) O<|aa<|clZ O<|bw h λr2 h=>aa<|lQ O O<|mvZ (.int .u64 borrow) O<|aa<|lQ O O<|stZ h (λs hs h=>wZ rg<|aB (v:=.int .u64 s) (by subst hs;rfl)<|aU<|mvZ (.sl 1 rg 32 g2 0 out.length) O<|mvZ (.int .u64 s) O<|aa<|bj bT bN O<|wZ rg<|ba aO cJ bR (es:=[.int .u32 (IntKind.wrap .u32 s)]) O (kk:=1) O O O O O O (λg3=>tkZ h (λhg h=>wZ rg<|ck aO dF cJ bR (es:=out) (xs:=[(IntKind.wrap .u32 s)]) (enc:=AV.int .u32) (aZ 32 O) lzZ (bv (aZ 31 O) lzZ) (kk:=1) O O (λ_=>O) (λ_=>O) hg O (λ_=>aY) (λg4=>asZ (.sl 1 rg 32 g4 0<|(out++[(IntKind.wrap .u32 s)]).length) O<|nZ<|rZ<|mvZ (.int .u64 s) O<|aa<|eb O O dZ<|asZ (.int .u64<|s / 2^(Int.toNat 63)) O<|nZ<|rZ<|tkZ h (λhg1 h=>aa<|aF O O hg1<|mvZ (iZ<|x+1) O<|nZ<|⟨(((s / 2^(Int.toNat 63)),(x+1),(out++[(IntKind.wrap .u32 s)])),g4),(ap (aE<|fZ<|fZ<|fn)<|sc O<|sn),h⟩)))))
 exact xsZ<|af<|mvZ (.sl 1 rg 32 g2 0 out.length) O<|fI (bi (k:=32) (xs:=List.map (AV.int .u32) out) O (es:=[(36,ae out)]) (fc (bf O)<|fn) (m:=[])<|sn)<|aa<|clZ O<|b9 h λr3 h=>asZ (ae r3) O<|asZ (iZ 0) O<|aD<|aw (v:=ae r3) O<|aw (v:=iZ 0) O<|aH<|aK hrg (VW.tupL<|vZ<|vZ<|vn)<|hQ _ _ h
theorem mN {a:List Int} {s:Int} {Q:List Int->Prop} (h:j7 a s Q) (hQ:∀r1,Q r1->R (ae r1) S) :
  Ctr Tryz.prog 257 [ae a,iZ s] S R:=by
 refine aL Tryz.func257 rfl Tryz.ntmps257 Tryz.results257 krZ (λrg hrg=>?_)
 refine af<|asZ .nil O<|aU<|asZ .nil O<|aU<|asZ (.int .u64 0) O<|nZ<|qZ<|af<|mvZ (ae a) O<|aa<|aG aO O<|mvZ (iZ 0) O<|nZ<|bZ<|Vc.mat 5 25 1 O dZ (λg1=>lgZ h g1 (λy=>aQ [(1,iZ s),(5,.sl 1 rg 25 y.2 0 y.1.2.2.length),(6,.int .u64 y.1.1),(9,ae a),(10,iZ (a.length:Int)),(11,iZ y.1.2.1)]) (λy=>stL S rg [(25,.arr 1 (List.map (AV.int .u32) y.1.2.2),y.2)]) (ap (fZ<|fc (VW.slen lzZ)<|aE<|fn)<|sc O<|sn) (λy _ h=>?_))
 obtain⟨⟨carry,x,out⟩,g2⟩:=y
 refine af<|aa<|a9 O O<|nZ<|qZ<|cZ h O (λhb h=>?_) (λhb h=>?_)
 ·exact kZ<|qZ<|bZ<|af<|tkZ h (λhg h=>aa<|aV aO aR dZ (λ_=>O) O O hg<|aa<|a8 aR cD O O (v:=.int .u32 (at' a x)) O<|asZ (.int .u32<|at' a x) O<|aU<|mvZ (.int .u64 carry) O<|mvZ (.int .u32<|at' a x) O<|aa<|bj bN bT O<|mvZ (iZ s) O<|tkZ h (λhg1 h=>aa<|kT O O hg1<|aa<|qz O O<|stZ h (λcarry1 hs h=>wZ rg<|aB (v:=.int .u64 carry1) (by subst hs;rfl)<|aU<|mvZ (.sl 1 rg 25 g2 0 out.length) O<|mvZ (.int .u64 carry1) O<|aa<|bj bT bN O<|wZ rg<|ba aO cJ bR (es:=[.int .u32 (IntKind.wrap .u32 carry1)]) O (kk:=1) O O O O O O (λg3=>tkZ h (λhg2 h=>wZ rg<|ck aO dF cJ bR (es:=out) (xs:=[(IntKind.wrap .u32 carry1)]) (enc:=AV.int .u32) (aZ 25 O) lzZ (bv (aZ 24 O) lzZ) (kk:=1) O O (λ_=>O) (λ_=>O) hg2 O (λ_=>aY) (λg4=>asZ (.sl 1 rg 25 g4 0<|(out++[(IntKind.wrap .u32 carry1)]).length) O<|nZ<|rZ<|mvZ (.int .u64 carry1) O<|aa<|eb O O dZ<|asZ (.int .u64<|carry1 / 2^(Int.toNat 32)) O<|nZ<|rZ<|tkZ h (λhg3 h=>aa<|aF O O hg3<|mvZ (iZ<|x+1) O<|nZ<|⟨(((carry1 / 2^(Int.toNat 32)),(x+1),(out++[(IntKind.wrap .u32 carry1)])),g4),(ap (aE<|fZ<|fZ<|fn)<|sc O<|sn),h⟩)))))))
 exact xsZ<|af<|mvZ (.sl 1 rg 25 g2 0 out.length) O<|mvZ (.int .u64 carry) O<|aa<|bj bT bN O<|wZ rg<|ba aO cJ bR (es:=[.int .u32 (IntKind.wrap .u32 carry)]) O (kk:=1) O O O O O O (λg5=>tkZ h (λhg4 h=>wZ rg<|ck aO dF cJ bR (es:=out) (xs:=[(IntKind.wrap .u32 carry)]) (enc:=AV.int .u32) (aZ 25 O) lzZ (bv (aZ 32 O) lzZ) (kk:=1) O O (λ_=>O) (λ_=>O) hg4 O (λ_=>aY) (λg6=>fI (bi (k:=25) (xs:=List.map (AV.int .u32) (out++[(IntKind.wrap .u32 carry)])) O (es:=[(33,ae (out++[(IntKind.wrap .u32 carry)]))]) (fc (bf O)<|fn) (m:=[]) (sn)) (aa<|clZ O<|b9 h λr h=>asZ (ae r) O<|aD<|gv1 hrg<|hQ _ h))))
theorem pq {a:List Int} {s:Int} {Q:List Int->Prop} (h:iF a s Q) (hQ:∀r1,Q r1->R (ae r1) S) :
  Ctr Tryz.prog 258 [ae a,iZ s] S R:=by
 refine aL Tryz.func258 rfl Tryz.ntmps258 Tryz.results258 krZ (λrg hrg=>?_)
 refine af<|asZ .nil O<|aU<|asZ .nil O<|nZ<|qZ<|af<|mvZ (ae a) O<|aa<|aG aO O<|mvZ (iZ 0) O<|nZ<|bZ<|Vc.mat 5 26 1 O dZ (λg1=>lgZ h g1 (λy=>aQ [(0,ae a),(1,iZ s),(5,.sl 1 rg 26 y.2 0 y.1.2.length),(8,iZ (a.length:Int)),(9,iZ y.1.1)]) (λy=>stL S rg [(26,.arr 1 (List.map (AV.int .u32) y.1.2),y.2)]) (ap (fZ<|fZ<|fc (VW.slen lzZ)<|fZ<|fZ<|fn)<|sc O<|sn) (λy _ h=>?_))
 obtain⟨⟨x,out⟩,g2⟩:=y
 refine af<|aa<|a9 O O<|nZ<|qZ<|cZ h O (λhb h=>?_) (λhb h=>?_)
 ·exact kZ<|qZ<|bZ<|af<|mvZ (iZ x) O<|asZ (iZ x) O<|nZ<|rZ<|mvZ (.sl 1 rg 26 g2 0 out.length) O<|mvZ (ae a) O<|mvZ (iZ x) O<|aa<|clZ O<|bw h λr h=>mvZ (ae a) O<|mvZ (iZ x) O<|tkZ h (λhg h=>aa<|aF O O hg<|aa<|clZ O<|bw h λr1 h=>aa<|kT O O dZ<|aa<|qz O O<|mvZ (iZ s) O<|tkZ h (λhg1 h=>aa<|eb O O hg1<|aa<|bj bT bN O<|wZ rg<|ba aO cJ bR (es:=[.int .u32 (IntKind.wrap .u32<|(bits .or .u64 r<|IntKind.wrap .u64<|r1*2^(Int.toNat 32)) / 2^(Int.toNat s))]) O (kk:=1) O O O O O O (λg3=>tkZ h (λhg2 h=>wZ rg<|ck aO dF cJ bR (es:=out) (xs:=[(IntKind.wrap .u32<|(bits .or .u64 r<|IntKind.wrap .u64<|r1*2^(Int.toNat 32)) / 2^(Int.toNat s))]) (enc:=AV.int .u32) (aZ 26 O) lzZ (bv (aZ 25 O) lzZ) (kk:=1) O O (λ_=>O) (λ_=>O) hg2 O (λ_=>aY) (λg4=>asZ (.sl 1 rg 26 g4 0<|(out++[(IntKind.wrap .u32<|(bits .or .u64 r<|IntKind.wrap .u64<|r1*2^(Int.toNat 32)) / 2^(Int.toNat s))]).length) O (nZ<|rZ<|tkZ h (λhg3 h=>aa<|aF O O hg3<|mvZ (iZ<|x+1) O<|nZ<|⟨(((x+1),(out++[(IntKind.wrap .u32<|(bits .or .u64 r<|IntKind.wrap .u64<|r1*2^(Int.toNat 32)) / 2^(Int.toNat s))])),g4),(ap (aE<|fZ<|fn)<|sc O<|sn),h⟩)))))))
 exact xsZ<|af<|mvZ (.sl 1 rg 26 g2 0 out.length) O<|fI (bi (k:=26) (xs:=List.map (AV.int .u32) out) O (es:=[(28,ae out)]) (fc (bf O)<|fn) (m:=[])<|sn)<|aa<|clZ O<|b9 h λr2 h=>asZ (ae r2) O<|aD<|gv1 hrg<|hQ _ h
theorem jD {a:List Int} {b:List Int} {Q:List Int->List Int->Int->Prop} (h:gV a b Q) (hQ:∀r1 r2 r3,Q r1 r2 r3->R (.tuple [ae r1,ae r2,iZ r3]) S) :
  Ctr Tryz.prog 191 [ae a,ae b] S R:=by
 refine aL Tryz.func191 rfl Tryz.ntmps191 Tryz.results191 krZ (λrg hrg=>?_)
 refine af<|asZ .nil O<|asZ .nil O<|asZ (iZ 0) O<|aU<|mvZ (ae b) O<|aa<|clZ O<|b9 h λb1 h=>asZ (ae b1) O<|aU<|mvZ (ae b1) O<|aa<|aG aO O<|asZ (iZ (b1.length:Int)) O<|nZ<|qZ<|af<|mvZ (iZ (b1.length:Int)) O<|aa<|br O O<|nZ<|cZ h O (λhb h=>?_) (λhb h=>?_)
 ·exact af<|asZ .nil O<|asZ .nil O<|asZ (iZ 8) O<|aD<|aw (v:=.nil) O<|aw (v:=.nil) O<|aw (v:=iZ 8) O<|aH<|aK hrg (VW.tupL<|vl' (VW.nilL)<|vl' (VW.nilL)<|vZ<|vn)<|hQ _ _ _ h
 refine kZ<|af<|asZ (iZ 0) O<|nZ<|qZ<|bZ<|lpZ h (λy=>aQ [(0,ae a),(1,ae b1),(7,iZ (b1.length:Int)),(8,iZ y)]) (λy=>stL S rg []) (ap (aE<|fn)<|sn) (λs _ h=>qZ<|af<|mvZ (ae b1) O<|mvZ (iZ (b1.length:Int)) O<|tkZ h (λhg h=>aa<|bo O O hg<|tkZ h (λhg1 h=>aa<|aV aO aR dZ (λ_=>O) O O hg1<|aa<|a8 aR cD O O (v:=.int .u32 (at' b1<|(b1.length:Int)-1)) O (mvZ (iZ s) O<|tkZ h (λhg2 h=>aa<|kT O O hg2<|aa<|mT O O<|aa<|br O O<|nZ<|cZ h O (λhb1 h=>?_) (λhb1 h=>?_))))))
 ·exact kZ<|bZ<|rZ<|mvZ (iZ s) O<|tkZ h (λhg3 h=>aa<|aF O O hg3<|asZ (iZ<|s+1) O<|nZ<|⟨(s+1),(ap (aE<|fn)<|sn),h⟩)
 refine xsZ<|af<|mvZ (ae a) O<|mvZ (iZ s) O<|aa<|clZ O<|mN h λa1 h=>mvZ (ae b1) O<|mvZ (iZ s) O<|aa<|clZ O<|mN h λb2 h=>asZ (ae a1) O<|asZ (ae b2) O<|nZ<|qZ<|tkZ h (λhg4 h=>tkZ h (λhg5 h=>tkZ h (λhg6 h=>tkZ h (λhg7 h=>tkZ h (λhg8 h=>Vc.drawn' bz rg (λ_=>gb) krZ<|dP O O<|az (v:=ae a1) O<|dP O O<|aG aO O<|dL (E:=([],[(rg,39)])) O O (by simp) (cfn) (ig aO dF cJ (enc:=AV.int .u32) (z':=0) bR (kk:=1) O O O hg4 (λg1=>dL (E:=([],[(rg,40)])) O O (by simp) (cfa (by simp[aS])<|cfn) (ba aO cJ bR (es:=[]) O (kk:=1) O O O O O O (λg2=>dP O O<|az (v:=ae a1) O<|dP O O<|az (v:=ae a1) O<|dP O O<|aG aO O<|dP O O<|az (v:=iZ (b1.length:Int)) O<|dP O O<|bo O O hg5<|dP O O<|aF O O hg6<|dP O O<|tm O O<|dP O O<|mS aO aR dZ (λ_=>O) O (l:=(max 0<|((a1.length:Int)-(b1.length:Int))+1)) (h:=(a1.length:Int)) O O hg7 (dL (E:=([],[(rg,40)])) O O (by simp) (cfo krZ<|cfa (by simp[aS])<|cfn) (ck aO dF cJ bR (es:=([]:List Int)) (xs:=(gn a1 (max 0<|((a1.length:Int)-(b1.length:Int))+1) (a1.length:Int))) (enc:=AV.int .u32) (aZ 40 O) lzZ (O) (kk:=1) O O (λ_=>O) (λ_=>O) hg8 O (λ_=>aY) (λg3=>?_))))))))))))
 refine dP O O<|aB (v:=.sl 1 rg 39 g1 0 (Int.toNat (a1.length:Int))) O (dP O O<|aB (v:=.sl 1 rg 40 g3 0 ((([]:List Int)++(gn a1 (max 0<|((a1.length:Int)-(b1.length:Int))+1) (a1.length:Int))).length)) O (dN<|qZ<|af<|mvZ (ae a1) O<|aa<|aG aO O<|mvZ (iZ (b1.length:Int)) O<|tkZ h (λhg9 h=>aa<|bo O O hg9<|asZ (iZ<|(a1.length:Int)-(b1.length:Int)) O<|nZ<|bZ<|yX (bi (k:=40) (xs:=List.map (AV.int .u32) (([]:List Int)++(gn a1 (max 0<|((a1.length:Int)-(b1.length:Int))+1) (a1.length:Int)))) O (es:=[(0,ae a1),(1,ae b2),(7,iZ (b1.length:Int)),(8,iZ s),(9,.sl 1 rg 39 g1 0 (Int.toNat (a1.length:Int))),(10,ae (([]:List Int)++(gn a1 (max 0<|((a1.length:Int)-(b1.length:Int))+1) (a1.length:Int)))),(11,iZ ((a1.length:Int)-(b1.length:Int)))]) (aE<|fc (i9 O)<|fc (bf O)<|fZ<|fn) (m:=[(39,.arr 1 (List.map (AV.int .u32)<|eN (a1.length:Int) 0),g1)]) (sc O<|sn)) (lpZ h (λy=>aQ [(0,ae a1),(1,ae b2),(7,iZ (b1.length:Int)),(8,iZ s),(9,.sl 1 rg 39 g1 0 y.2.2.length),(10,ae y.1),(11,iZ y.2.1)]) (λy=>stL S rg [(39,.arr 1 (List.map (AV.int .u32) y.2.2),g1)]) (ap (aE<|fc (VW.slen lzZ)<|fZ<|fZ<|fn)<|sc O<|sn) (λy _ h=>?_)))))
 obtain⟨r,i,q⟩:=y
 refine qZ<|af<|mvZ (iZ i) O<|aa<|dI O O<|nZ<|cZ h O (λhb2 h=>?_) (λhb2 h=>?_)
 ·refine kZ<|qZ<|bZ<|af<|mvZ (ae a1) O<|mvZ (iZ i) O<|tkZ h (λhg10 h=>aa<|aV aO aR dZ (λ_=>O) O O hg10<|aa<|a8 aR cD O O (v:=.int .u32 (at' a1 i)) O<|wZ rg<|ba aO cJ bR (es:=[.int .u32 (at' a1 i)]) O (kk:=1) O O O O O O (λg4=>mvZ (ae r) O<|tkZ h (λhg11 h=>wZ rg<|ck aO dF cJ bR (es:=[(at' a1 i)]) (xs:=r) (enc:=AV.int .u32) (aZ 62 O) lzZ (O) (kk:=1) O O (λ_=>O) (λ_=>O) hg11 O (λ_=>aY) (λg5=>fI (bi (k:=62) (xs:=List.map (AV.int .u32) ([(at' a1 i)]++r)) O (es:=[(0,ae a1),(1,ae b2),(7,iZ (b1.length:Int)),(8,iZ s),(9,.sl 1 rg 39 g1 0 q.length),(11,iZ i),(64,ae ([(at' a1 i)]++r))]) (aE<|fc (i9 O)<|fZ<|fc (bf O)<|fn) (m:=[(39,.arr 1 (List.map (AV.int .u32) q),g1)]) (sc O<|sn)) (aa<|clZ O<|b9 h λr1 h=>asZ (ae r1) O<|aU<|mvZ (ae r1) O<|mvZ (iZ (b1.length:Int)) O<|aa<|clZ O<|bw h λr2 h=>aa<|kT O O dZ<|mvZ (ae r1) O<|mvZ (iZ (b1.length:Int)) O<|tkZ h (λhg12 h=>aa<|bo O O hg12<|aa<|clZ O<|bw h λr3 h=>aa<|qz O O<|mvZ (ae b2) O<|mvZ (iZ (b1.length:Int)) O<|tkZ h (λhg13 h=>aa<|bo O O hg13<|aa<|clZ O<|bw h λr4 h=>tkZ h (λhg14 h=>aa<|uO O O hg14<|aa<|zS O O<|stZ h (λguess hs h=>?_)))))))))
  refine wZ rg<|aB (v:=.int .u64 guess) (by subst hs;rfl)<|aU<|mvZ (ae b2) O<|mvZ (.int .u64 guess) O<|aa<|bj bT bN O<|wZ rg<|ba aO cJ bR (es:=[.int .u32 (IntKind.wrap .u32 guess)]) O (kk:=1) O O O O O O (λg6=>fI (bi (k:=84) (xs:=List.map (AV.int .u32) [(IntKind.wrap .u32 guess)]) O (es:=[(0,ae a1),(1,ae b2),(7,iZ (b1.length:Int)),(8,iZ s),(9,.sl 1 rg 39 g1 0 q.length),(10,ae r1),(11,iZ i),(12,.int .u64 guess),(81,ae b2),(84,ae [(IntKind.wrap .u32 guess)])]) (aE<|fc (i9 O)<|aE<|fc (bf O)<|fn) (m:=[(39,.arr 1 (List.map (AV.int .u32) q),g1)]) (sc O<|sn)) (aa<|clZ O<|cY h λp h=>asZ (ae p) O<|nZ<|qZ<|bZ<|lpZ h (λy=>aQ [(0,ae a1),(1,ae b2),(7,iZ (b1.length:Int)),(8,iZ s),(9,.sl 1 rg 39 g1 0 q.length),(10,ae r1),(11,iZ i),(12,.int .u64 y.1),(13,ae y.2)]) (λy=>stL S rg [(39,.arr 1 (List.map (AV.int .u32) q),g1)]) (ap (aE<|aE<|fZ<|fn)<|sc O<|sn) (λy _ h=>?_)))
  obtain⟨guess1,p1⟩:=y
  refine qZ<|af<|mvZ (ae p1) O<|mvZ (ae r1) O<|aa<|clZ O<|jE h λr5 h=>aa<|dp O O<|nZ<|cZ h O (λhb3 h=>?_) (λhb3 h=>?_)
  ·exact kZ<|bZ<|af<|mvZ (.int .u64 guess1) O<|aa<|lQ O O<|asZ (.int .u64<|IntKind.wrap .u64<|guess1-1) O<|nZ<|rZ<|mvZ (ae p1) O<|mvZ (ae b2) O<|aa<|clZ O<|jC h λr6 r7 h=>mvZ (.tuple [ae r6,iZ r7]) O<|aa<|ah (v:=ae r6) O O O<|aa<|ah (v:=iZ r7) O O O<|asZ (ae r6) O<|nZ<|⟨((IntKind.wrap .u64<|guess1-1),r6),(ap (aE<|aE<|fZ<|fn)<|sc O<|sn),h⟩
  exact xsZ<|af<|mvZ (ae r1) O<|mvZ (ae p1) O<|aa<|clZ O<|jC h λr8 r9 h=>mvZ (.tuple [ae r8,iZ r9]) O<|aa<|ah (v:=ae r8) O O O<|aa<|ah (v:=iZ r9) O O O<|asZ (ae r8) O<|nZ<|rZ<|mvZ (.sl 1 rg 39 g1 0 q.length) O<|mvZ (iZ i) O<|mvZ (.int .u64 guess1) O<|aa<|bj bT bN O<|tkZ h (λhi h=>aa<|bL aO aR dZ O O hi<|aa<|b7 (aZ 39 O) aR dZ (x':=(IntKind.wrap .u32 guess1)) (λ_=>O) O O (dh hi lzZ) O O aY<|nZ<|rZ<|mvZ (iZ i) O<|tkZ h (λhg15 h=>aa<|bo O O hg15<|asZ (iZ<|i-1) O<|nZ<|⟨(r8,(i-1),(b8 q i<|IntKind.wrap .u32 guess1)),(ap (aE<|fc (VW.slen lzZ)<|fZ<|fZ<|fn)<|sc O<|sn),h⟩))
 exact xsZ<|af<|mvZ (.sl 1 rg 39 g1 0 q.length) O<|fI (bi (k:=39) (xs:=List.map (AV.int .u32) q) O (es:=[(8,iZ s),(10,ae r),(109,ae q)]) (fZ<|fZ<|fc (bf O)<|fn) (m:=[]) (sn)) (aa<|clZ O<|b9 h λr10 h=>mvZ (ae r) O<|mvZ (iZ s) O<|aa<|clZ O<|pq h λr11 h=>asZ (ae r10) O<|asZ (ae r11) O<|asZ (iZ 0) O<|aD<|aw (v:=ae r10) O<|aw (v:=ae r11) O<|aw (v:=iZ 0) O<|aH<|aK hrg (VW.tupL<|vZ<|vZ<|vZ<|vn)<|hQ _ _ _ h)
theorem lO {a:List Int} {b:List Int} {Q:List Int->Prop} (h:jj a b Q) (hQ:∀r1,Q r1->R (ae r1) S) :
  Ctr Tryz.prog 190 [ae a,ae b] S R:=by
 refine aL Tryz.func190 rfl Tryz.ntmps190 Tryz.results190 krZ (λrg hrg=>?_)
 refine af<|asZ .nil O<|aU<|mvZ (ae a) O<|aa<|clZ O<|b9 h λa1 h=>mvZ (ae b) O<|aa<|clZ O<|b9 h λb1 h=>asZ (ae a1) O<|asZ (ae b1) O<|nZ<|qZ<|bZ<|lpZ h (λy=>aQ [(0,ae y.1),(1,ae y.2)]) (λy=>stL S rg []) (ap (fZ<|fZ<|fn)<|sn) (λy _ h=>?_)
 obtain⟨a2,b2⟩:=y
 refine qZ<|af<|mvZ (ae b2) O<|aa<|aG aO O<|aa<|dp O O<|nZ<|cZ h O (λhb h=>?_) (λhb h=>?_)
 ·exact kZ<|bZ<|af<|mvZ (ae a2) O<|mvZ (ae b2) O<|aa<|clZ O<|jD h λr r1 r2 h=>mvZ (.tuple [ae r,ae r1,iZ r2]) O<|aa<|ah (v:=ae r) O O O<|aa<|ah (v:=ae r1) O O O<|aa<|ah (v:=iZ r2) O O O<|asZ (ae r) O<|asZ (ae r1) O<|asZ (iZ r2) O<|nZ<|rZ<|mvZ (ae b2) O<|mvZ (ae r1) O<|asZ (ae b2) O<|asZ (ae r1) O<|nZ<|⟨(b2,r1),(ap (fZ<|fZ<|fn)<|sn),h⟩
 exact xsZ<|af<|mvZ (ae a2) O<|asZ (ae a2) O<|aD<|gv1 hrg<|hQ _ h
theorem qw {a:List Int} {b:List Int} {Q:List Int->Prop} (h:jk a b Q) (hQ:∀r1,Q r1->R (ae r1) S) :
  Ctr Tryz.prog 114 [ae a,ae b] S R:=by
 refine aL Tryz.func114 rfl Tryz.ntmps114 Tryz.results114 krZ (λrg hrg=>?_)
 refine af<|asZ .nil O<|aU<|asZ .nil O<|aU<|asZ (.int .u64 0) O<|nZ<|qZ<|af<|mvZ (ae a) O<|aa<|aG aO O<|mvZ (ae b) O<|aa<|aG aO O<|aa<|tm O O<|tkZ h (λhg h=>aa<|aF O O hg<|mvZ (iZ 0) O<|nZ<|bZ<|Vc.mat 5 31 1 O dZ (λg1=>lgZ h g1 (λy=>aQ [(0,ae a),(1,ae b),(5,.sl 1 rg 31 y.2 0 y.1.2.2.length),(6,.int .u64 y.1.1),(14,iZ ((max (a.length:Int) (b.length:Int))+1)),(15,iZ y.1.2.1)]) (λy=>stL S rg [(31,.arr 1 (List.map (AV.int .u32) y.1.2.2),y.2)]) (ap (fZ<|fZ<|fc (VW.slen lzZ)<|fZ<|fZ<|fZ<|fn)<|sc O<|sn) (λy _ h=>?_)))
 obtain⟨⟨carry,x,out⟩,g2⟩:=y
 refine af<|aa<|a9 O O<|nZ<|qZ<|cZ h O (λhb h=>?_) (λhb h=>?_)
 ·exact kZ<|qZ<|bZ<|af<|mvZ (iZ x) O<|asZ (iZ x) O<|aU<|mvZ (ae a) O<|mvZ (iZ x) O<|aa<|clZ O<|bw h λr h=>mvZ (ae b) O<|mvZ (iZ x) O<|aa<|clZ O<|bw h λr1 h=>aa<|jP O O<|mvZ (.int .u64 carry) O<|aa<|jP O O<|stZ h (λs hs h=>wZ rg<|aB (v:=.int .u64 s) (by subst hs;rfl)<|aU<|mvZ (.sl 1 rg 31 g2 0 out.length) O<|mvZ (.int .u64 s) O<|aa<|bj bT bN O<|wZ rg<|ba aO cJ bR (es:=[.int .u32 (IntKind.wrap .u32 s)]) O (kk:=1) O O O O O O (λg3=>tkZ h (λhg1 h=>wZ rg<|ck aO dF cJ bR (es:=out) (xs:=[(IntKind.wrap .u32 s)]) (enc:=AV.int .u32) (aZ 31 O) lzZ (bv (aZ 30 O) lzZ) (kk:=1) O O (λ_=>O) (λ_=>O) hg1 O (λ_=>aY) (λg4=>asZ (.sl 1 rg 31 g4 0<|(out++[(IntKind.wrap .u32 s)]).length) O<|nZ<|rZ<|mvZ (.int .u64 s) O<|aa<|eb O O dZ<|asZ (.int .u64<|s / 2^(Int.toNat 32)) O<|nZ<|rZ<|tkZ h (λhg2 h=>aa<|aF O O hg2<|mvZ (iZ<|x+1) O<|nZ<|⟨(((s / 2^(Int.toNat 32)),(x+1),(out++[(IntKind.wrap .u32 s)])),g4),(ap (aE<|fZ<|fZ<|fn)<|sc O<|sn),h⟩)))))
 exact xsZ<|af<|mvZ (.sl 1 rg 31 g2 0 out.length) O<|fI (bi (k:=31) (xs:=List.map (AV.int .u32) out) O (es:=[(35,ae out)]) (fc (bf O)<|fn) (m:=[])<|sn)<|aa<|clZ O<|b9 h λr2 h=>asZ (ae r2) O<|aD<|gv1 hrg<|hQ _ h
end Go.Proofs.YtnjgdkfhgmebjaaGreat
namespace Go.Proofs.YtnjgdkfhgmebjaaGreat
open Go.Gg
set_option maxRecDepth 100000
variable {S:St} {R:AV->St->Prop}
theorem gy {Q:List Int->Prop} (h:fX Q) (hQ:∀r1,Q r1->R (ae r1) S) :
  Ctr Tryz.prog 196 [] S R:=by
 refine aL Tryz.func196 rfl Tryz.ntmps196 Tryz.results196 krZ (λrg hrg=>?_)
 exact af<|asZ .nil O<|aU<|wZ rg<|ba aO cJ bR (es:=[.int .u32 1]) O (kk:=1) O O O O O O (λg1=>asZ (.sl 1 rg 1 g1 0<|[1].length) O<|aD<|aw (v:=.sl 1 rg 1 g1 0 ([1].length)) O<|aH<|bk (k:=1) (xs:=List.map (AV.int .u32) [1]) O (v':=ae [1]) (bf O)<|goZ hrg<|hQ _ h)
theorem iY {a:List Int} {Q:Bool->Prop} (h:eQ a Q) (hQ:∀r1,Q r1->R (AV.bool r1) S) :
  Ctr Tryz.prog 259 [ae a] S R:=by
 refine aL Tryz.func259 rfl Tryz.ntmps259 Tryz.results259 krZ (λrg hrg=>?_)
 refine af<|asZ (.bool false) O<|aU<|mvZ (ae a) O<|aa<|aG aO O<|aa<|dp O O<|mvZ (.bool<|decide<|0<(a.length:Int)) O<|gtZ h O O (λhb h=>?_) (λhb h=>?_)
 ·exact mvZ (ae a) O<|gTZ O O hb<|mvZ (ae a) O<|gTZ O O hb<|aa<|aG aO O<|gTZ O O hb<|tkZ h (λhg h=>aa<|bo O O hg<|gTZ O O hb<|tkZ h (λhg1 h=>aa<|aV aO aR dZ (λ_=>O) O O hg1<|gTZ O O hb<|aa<|a8 aR cD O O (v:=.int .u32 (at' a<|(a.length:Int)-1)) O (gTZ O O hb<|aa<|dn O O<|aa<|aI O hb (v:=.bool ((at' a<|(a.length:Int)-1) != 0)) O (asZ (.bool<|(at' a<|(a.length:Int)-1) != 0) O (aD<|gv1 hrg<|hQ _ h)))))
 exact gFZ O O hb O<|gFZ O O hb O<|gFZ O O hb O<|gFZ O O hb O<|gFZ O O hb O<|gFZ O O hb O<|aa<|aJ O hb (v:=.bool false) O<|asZ (.bool false) O<|aD<|gv1 hrg<|hQ _ h
theorem i0 {a:GRat} {Q:Bool->Prop} (h:eR a Q) (hQ:∀r1,Q r1->R (AV.bool r1) S) :
  Ctr Tryz.prog 192 [ac a] S R:=by
 refine aL Tryz.func192 rfl Tryz.ntmps192 Tryz.results192 krZ (λrg hrg=>?_)
 refine af<|wZ rg<|bp (v:=ac a) O O (kk:=3) O dZ (λg1=>asZ (.bool false) O<|nZ<|qZ<|jgZ (γ:=Nat) h (λy=>aQ [(1,.ptr rg 1 y.2 0 0),(12,.bool y.1)]) (λy=>stL S rg [(1,.arr 3 [ac a],y.2)]) (λy h=>?_) (λ_ h=>?_))
 ·obtain⟨x,g2⟩:=y
  refine cZ h O (λhb h=>?_) (λhb h=>?_)
  ·exact af<|aa<|aP kY O<|aa<|ag (aZ 1 O) sz4 ag4 O O (v:=.bool a.Neg) O<|aa<|c9 O<|asZ (.bool<|!a.Neg) O<|aD<|gv1 hrg<|hQ _ h
  refine kZ<|af<|aa<|aP fA O<|aa<|ag (aZ 1 O) fK gp O O (v:=ae a.Num) O<|aa<|clZ O<|iY h λr h=>mvZ (.bool r) O<|gtZ h O O (λhb1 h=>?_) (λhb1 h=>?_)
  ·refine aa<|aP gE O<|gTZ O O hb1<|aa<|ag (aZ 1 O) fK gp O O (v:=ae a.Den) O<|gTZ O O hb1<|aa<|clZ O<|iY h λr1 h=>aa<|aI O hb1 (v:=.bool r1) O<|mvZ (.bool r1) O<|gtZ h O O (λhb2 h=>?_) (λhb2 h=>?_)
   ·exact aa<|aP fA O<|gTZ O O hb2<|aa<|ag (aZ 1 O) fK gp O O (v:=ae a.Num) O<|gTZ O O hb2<|aa<|aP gE O<|gTZ O O hb2<|aa<|ag (aZ 1 O) fK gp O O (v:=ae a.Den) O<|gTZ O O hb2<|aa<|clZ O<|kv h λr2 h=>gTZ O O hb2<|aa<|clZ O<|gy h λr3 h=>gTZ O O hb2<|aa<|clZ O<|dX h λr4 h=>gTZ O O hb2<|aa<|br O O<|aa<|aI O hb2 (v:=.bool (r4 == 0)) O<|asZ (.bool<|r4 == 0) O<|aD<|gv1 hrg<|hQ _ h
   exact gFZ O O hb2 O<|gFZ O O hb2 O<|gFZ O O hb2 O<|gFZ O O hb2 O<|gFZ O O hb2 O<|gFZ O O hb2 O<|gFZ O O hb2 O<|aa<|aJ O hb2 (v:=.bool false) O<|asZ (.bool false) O<|aD<|gv1 hrg<|hQ _ h
  exact gFZ O O hb1 O<|gFZ O O hb1 O<|aa<|aJ O hb1 (v:=.bool false) O<|mvZ (.bool false) O<|gFZ O O O O<|gFZ O O O O<|gFZ O O O O<|gFZ O O O O<|gFZ O O O O<|gFZ O O O O<|gFZ O O O O<|gFZ O O O O<|aa<|aJ O O (v:=.bool false) O<|asZ (.bool false) O<|aD<|gv1 hrg<|hQ _ h
 refine rZ<|aa<|aP fA O<|aa<|ag (aZ 1 O) fK gp O O (v:=ae a.Num) O<|aa<|aG aO O<|aa<|br O O<|mvZ (.bool<|(a.Num.length:Int) == 0) O<|gtZ h O O (λhb3 h=>?_) (λhb3 h=>?_)
 ·exact aa<|aP gE O<|gTZ O O hb3<|aa<|ag (aZ 1 O) fK gp O O (v:=ae a.Den) O<|gTZ O O hb3<|aa<|aG aO O<|gTZ O O hb3<|aa<|br O O<|aa<|aI O hb3 (v:=.bool ((a.Den.length:Int) == 0)) O (nZ<|⟨(((a.Den.length:Int) == 0),g1),(ap (fZ<|fZ<|fn)<|sc O<|sn),h⟩)
 exact gFZ O O hb3 O<|gFZ O O hb3 O<|gFZ O O hb3 O<|aa<|aJ O hb3 (v:=.bool false) O<|nZ<|⟨(false,g1),(ap (fZ<|fZ<|fn)<|sc O<|sn),h⟩
theorem bU {a:GRat} {Q:Bool->List Int->List Int->Prop} (h:bM a Q) (hQ:∀r1 r2 r3,Q r1 r2 r3->R (.tuple [AV.bool r1,ae r2,ae r3]) S) :
  Ctr Tryz.prog 163 [ac a] S R:=by
 refine aL Tryz.func163 rfl Tryz.ntmps163 Tryz.results163 krZ (λrg hrg=>?_)
 refine af<|wZ rg<|bp (v:=ac a) O O (kk:=3) O dZ (λg1=>asZ (.bool false) O<|asZ .nil O<|asZ .nil O<|nZ<|qZ<|jgZ (γ:=Nat) h (λy=>aQ [(1,.ptr rg 1 y.2 0 0),(13,.bool y.1)]) (λy=>stL S rg [(1,.arr 3 [ac a],y.2)]) (λy h=>?_) (λ_ h=>?_))
 ·obtain⟨x,g2⟩:=y
  refine cZ h O (λhb h=>?_) (λhb h=>?_)
  ·exact af<|aa<|clZ O<|gy h λr h=>asZ (.bool false) O<|asZ .nil O<|asZ (ae r) O<|aD<|aw (v:=.bool false) O<|aw (v:=.nil) O<|aw (v:=ae r) O<|aH<|aK hrg (VW.tupL<|vZ<|vl' (VW.nilL)<|vZ<|vn)<|hQ _ _ _ h
  exact kZ<|qZ<|Vc.drawn' bz rg (λ_=>gb) krZ<|dP O O<|aP kY O<|dL (E:=([(rg,1)],[])) O O (by simp) (cfn) (ag (aZ 1 O) sz4 ag4 O O (v:=.bool a.Neg) O<|dP O O<|aP fA O<|dL (E:=([(rg,1)],[])) O O (by simp) (cfa (by simp[aS])<|cfn) (ag (aZ 1 O) fK gp O O (v:=ae a.Num) O<|dP O O<|aP gE O<|dL (E:=([(rg,1)],[])) O O (by simp) (cfa (by simp[aS])<|cfa (by simp[aS])<|cfn) (ag (aZ 1 O) fK gp O O (v:=ae a.Den) O<|dP O O<|aB (v:=.bool a.Neg) O<|dP O O<|aB (v:=ae a.Num) O<|dP O O<|aB (v:=ae a.Den) O<|dN<|uZ<|aw (v:=.bool a.Neg) O<|aw (v:=ae a.Num) O<|aw (v:=ae a.Den) O<|aH<|aK hrg (VW.tupL<|vZ<|vZ<|vZ<|vn)<|hQ _ _ _ h)))
 refine rZ<|aa<|am (aZ 1 O) ay dZ aW O O (v:=ac a) O<|aa<|clZ O<|i0 h λr1 h=>aa<|c9 O<|mvZ (.bool<|!r1) O<|gfZ h O O (λhb1 h=>?_) (λhb1 h=>?_)
 ·exact aa<|aP fA O<|gTZ O O hb1<|aa<|ag (aZ 1 O) fK gp O O (v:=ae a.Num) O<|gTZ O O hb1<|aa<|aG aO O<|gTZ O O hb1<|aa<|br O O<|aa<|aJ O hb1 (v:=.bool ((a.Num.length:Int) == 0)) O (nZ<|⟨(((a.Num.length:Int) == 0),g1),(ap (fZ<|fZ<|fn)<|sc O<|sn),h⟩)
 exact gFZ O O hb1 O<|gFZ O O hb1 O<|gFZ O O hb1 O<|aa<|aI O hb1 (v:=.bool true) O<|nZ<|⟨(true,g1),(ap (fZ<|fZ<|fn)<|sc O<|sn),h⟩
theorem cy {neg:Bool} {num:List Int} {den:List Int} {Q:GRat->Prop} (h:bW neg num den Q) (hQ:∀r1,Q r1->R (ac r1) S) :
  Ctr Tryz.prog 165 [AV.bool neg,ae num,ae den] S R:=by
 refine aL Tryz.func165 rfl Tryz.ntmps165 Tryz.results165 krZ (λrg hrg=>?_)
 refine af<|wZ rg<|aX bh co (kk:=3) O (λg1=>nZ<|qZ<|af<|mvZ (ae num) O<|aa<|clZ O<|nO h λr h=>aa<|br O O<|nZ<|cZ h O (λhb h=>?_) (λhb h=>?_))
 ·exact af<|aa<|cz kG bh jp jg ay (ps:=[]) O O (v:=.agg [.bool false,.nil,.nil]) O<|aa<|au (aZ 6 O) ay dZ O (w:=.agg [.bool false,.nil,.nil]) O O O (v:=.agg [.bool false,.nil,.nil]) O aY<|aD<|aT (aZ 6 O) ay dZ aW O O (v:=.agg [.bool false,.nil,.nil]) O<|aH<|aK hrg (VW.aggL<|vZ<|vl' (VW.nilL)<|vl' (VW.nilL)<|vn)<|hQ _ h
 exact kZ<|af<|mvZ (ae num) O<|mvZ (ae den) O<|aa<|clZ O<|kv h λg2 h=>asZ (ae g2) O<|aU<|mvZ (ae num) O<|mvZ (ae g2) O<|aa<|clZ O<|ii h λr1 r2 r3 h=>mvZ (.tuple [ae r1,ae r2,bc 82 r3]) O<|aa<|ah (v:=ae r1) O O O<|aa<|ah (v:=ae r2) O O O<|aa<|ah (v:=bc 82 r3) O O O<|asZ (ae r1) O<|asZ (ae r2) O<|asZ (bc 82 r3) O<|aU<|mvZ (ae den) O<|mvZ (ae g2) O<|aa<|clZ O<|ii h λr4 r5 r6 h=>mvZ (.tuple [ae r4,ae r5,bc 82 r6]) O<|aa<|ah (v:=ae r4) O O O<|aa<|ah (v:=ae r5) O O O<|aa<|ah (v:=bc 82 r6) O O O<|asZ (ae r4) O<|asZ (ae r5) O<|asZ (bc 82 r6) O<|aU<|mvZ (.bool neg) O<|mvZ (ae r1) O<|mvZ (ae r4) O<|aa<|cz kG bh jp jg ay (ps:=[(0,.bool neg),(1,ae r1),(2,ae r4)]) O O (v:=.agg [.bool neg,ae r1,ae r4]) O (aa<|au (aZ 6 O) ay dZ O (w:=.agg [.bool neg,ae r1,ae r4]) O O O (v:=.agg [.bool neg,ae r1,ae r4]) O aY<|aD<|aT (aZ 6 O) ay dZ aW O O (v:=.agg [.bool neg,ae r1,ae r4]) O<|aH<|goZ hrg<|hQ _ h)
theorem nG {a:GRat} {b:GRat} {Q:GRat->Prop} (h:i3 a b Q) (hQ:∀r1,Q r1->R (ac r1) S) :
  Ctr Tryz.prog 91 [ac a,ac b] S R:=by
 refine aL Tryz.func91 rfl Tryz.ntmps91 Tryz.results91 krZ (λrg hrg=>?_)
 refine af<|wZ rg<|bp (v:=ac a) O O (kk:=3) O dZ (λg1=>wZ rg<|bp (v:=ac b) O O (kk:=3) O dZ (λg2=>wZ rg<|aX bh co (kk:=3) O (λg3=>aU<|aa<|am (aZ 2 O) ay dZ aW O O (v:=ac a) O<|aa<|clZ O<|bU h λr r1 r2 h=>mvZ (.tuple [.bool r,ae r1,ae r2]) O<|aa<|ah (v:=.bool r) O O O<|aa<|ah (v:=ae r1) O O O<|aa<|ah (v:=ae r2) O O O<|asZ (.bool r) O<|asZ (ae r1) O<|asZ (ae r2) O<|aU<|aa<|am (aZ 3 O) ay dZ aW O O (v:=ac b) O<|aa<|clZ O<|bU h λr3 r4 r5 h=>mvZ (.tuple [.bool r3,ae r4,ae r5]) O<|aa<|ah (v:=.bool r3) O O O<|aa<|ah (v:=ae r4) O O O<|aa<|ah (v:=ae r5) O O O<|asZ (.bool r3) O<|asZ (ae r4) O<|asZ (ae r5) O<|aU<|mvZ (ae r1) O<|mvZ (ae r5) O<|aa<|clZ O<|cS h λp h=>mvZ (ae r4) O<|mvZ (ae r2) O<|aa<|clZ O<|cS h λq h=>asZ (ae p) O<|asZ (ae q) O<|aU<|mvZ (ae r2) O<|mvZ (ae r5) O<|aa<|clZ O<|cS h λden h=>asZ (ae den) O<|nZ<|qZ<|af<|mvZ (.bool r) O<|mvZ (.bool r3) O<|aa<|rQ td4 O O<|nZ<|cZ h O (λhb h=>?_) (λhb h=>?_))))
 ·exact af<|mvZ (.bool r) O<|mvZ (ae p) O<|mvZ (ae q) O<|aa<|clZ O<|oI h λr6 h=>mvZ (ae den) O<|aa<|clZ O<|cy h λr7 h=>aa<|au (aZ 4 O) ay dZ O (w:=ac r7) O O O (v:=ac r7) O aY<|aD<|aT (aZ 4 O) ay dZ aW O O (v:=ac r7) O<|aH<|goZ hrg<|hQ _ h
 refine kZ<|qZ<|af<|mvZ (ae p) O<|mvZ (ae q) O<|aa<|clZ O<|dX h λr8 h=>aa<|dI O O<|nZ<|cZ h O (λhb1 h=>?_) (λhb1 h=>?_)
 ·exact af<|mvZ (ae p) O<|mvZ (ae q) O<|aa<|clZ O<|ku h λr9 r10 h=>mvZ (.tuple [ae r9,bc 82 r10]) O<|aa<|ah (v:=ae r9) O O O<|aa<|ah (v:=bc 82 r10) O O O<|asZ (ae r9) O<|asZ (bc 82 r10) O<|aU<|mvZ (.bool r) O<|mvZ (ae r9) O<|mvZ (ae den) O<|aa<|clZ O<|cy h λr11 h=>aa<|au (aZ 4 O) ay dZ O (w:=ac r11) O O O (v:=ac r11) O aY<|aD<|aT (aZ 4 O) ay dZ aW O O (v:=ac r11) O<|aH<|goZ hrg<|hQ _ h
 exact kZ<|af<|mvZ (ae q) O<|mvZ (ae p) O<|aa<|clZ O<|ku h λr12 r13 h=>mvZ (.tuple [ae r12,bc 82 r13]) O<|aa<|ah (v:=ae r12) O O O<|aa<|ah (v:=bc 82 r13) O O O<|asZ (ae r12) O<|asZ (bc 82 r13) O<|aU<|mvZ (.bool r3) O<|mvZ (ae r12) O<|mvZ (ae den) O<|aa<|clZ O<|cy h λr14 h=>aa<|au (aZ 4 O) ay dZ O (w:=ac r14) O O O (v:=ac r14) O aY<|aD<|aT (aZ 4 O) ay dZ aW O O (v:=ac r14) O<|aH<|goZ hrg<|hQ _ h
theorem nE {a:GRat} {Q:GRat->Prop} (h:i2 a Q) (hQ:∀r1,Q r1->R (ac r1) S) :
  Ctr Tryz.prog 173 [ac a] S R:=by
 refine aL Tryz.func173 rfl Tryz.ntmps173 Tryz.results173 krZ (λrg hrg=>?_)
 exact af<|wZ rg<|bp (v:=ac a) O O (kk:=3) O dZ (λg1=>wZ rg<|aX bh co (kk:=3) O (λg2=>aU<|aa<|am (aZ 1 O) ay dZ aW O O (v:=ac a) O<|aa<|clZ O<|bU h λr r1 r2 h=>mvZ (.tuple [.bool r,ae r1,ae r2]) O<|aa<|ah (v:=.bool r) O O O<|aa<|ah (v:=ae r1) O O O<|aa<|ah (v:=ae r2) O O O<|asZ (.bool r) O<|asZ (ae r1) O<|asZ (ae r2) O<|aU<|mvZ (.bool r) O<|aa<|c9 O<|mvZ (ae r1) O<|mvZ (ae r2) O<|aa<|clZ O<|cy h λr3 h=>aa<|au (aZ 2 O) ay dZ O (w:=ac r3) O O O (v:=ac r3) O aY<|aD<|aT (aZ 2 O) ay dZ aW O O (v:=ac r3) O<|aH<|goZ hrg<|hQ _ h))
theorem eS {a:GRat} {b:GRat} {Q:GRat->Prop} (h:cO a b Q) (hQ:∀r1,Q r1->R (ac r1) S) :
  Ctr Tryz.prog 98 [ac a,ac b] S R:=by
 refine aL Tryz.func98 rfl Tryz.ntmps98 Tryz.results98 krZ (λrg hrg=>?_)
 refine af<|wZ rg<|bp (v:=ac a) O O (kk:=3) O dZ (λg1=>wZ rg<|bp (v:=ac b) O O (kk:=3) O dZ (λg2=>wZ rg<|aX bh co (kk:=3) O (λg3=>nZ<|qZ ?_)))
 obtain⟨r,hc,h⟩:=h
 obtain⟨r1,hc1,h⟩:=h
 exact Vc.drawn' bz rg (eZ [(2,pc (ac r)),(3,pc (ac r1))]) krZ<|dL (E:=([(rg,2)],[])) O O (by simp) (cfn) (am (aZ 2 O) ay dZ aW O O (v:=ac a) O<|dL (E:=([(rg,3)],[])) O O (by simp) (cfa (by simp[aS])<|cfn) (am (aZ 3 O) ay dZ aW O O (v:=ac b) O<|dC (vs:=[ac b]) O (vZ<|vn) (λ_=>nE hc (λ_ hr=>⟨by rw[hr],rfl⟩)) O<|dC (vs:=[ac a,ac r]) O (vZ<|vZ<|vn) (λ_=>nG hc1 (λ_ hr=>⟨by rw[hr],rfl⟩)) O<|dL (E:=([],[(rg,4)])) O O (by simp) (cfo krZ<|cfo krZ<|cfn) (au (aZ 4 O) ay dZ O (w:=ac r1) O O O (v:=ac r1) O aY<|dN<|uZ<|aT (aZ 4 O) ay dZ aW O O (v:=ac r1) O<|aH<|goZ hrg<|hQ _ h)))
theorem mO {n:Int} {Q:List Int->Prop} (h:ia n Q) (hQ:∀r1,Q r1->R (ae r1) S) :
  Ctr Tryz.prog 195 [iZ n] S R:=by
 refine aL Tryz.func195 rfl Tryz.ntmps195 Tryz.results195 krZ (λrg hrg=>?_)
 refine af<|asZ .nil O<|nZ<|qZ<|af<|mvZ (iZ n) O<|aa<|br O O<|nZ<|cZ h O (λhb h=>?_) (λhb h=>?_)
 ·exact af<|wZ rg<|ba aO cJ bR (es:=[.int .u32 0,.int .u32 2147483648]) O (kk:=1) O O O O O O (λg1=>asZ (.sl 1 rg 5 g1 0<|[0,2147483648].length) O<|aD<|aw (v:=.sl 1 rg 5 g1 0 ([0,2147483648].length)) O<|aH<|bk (k:=5) (xs:=List.map (AV.int .u32) [0,2147483648]) O (v':=ae [0,2147483648]) (bf O)<|goZ hrg<|hQ _ h)
 exact kZ<|af<|mvZ (iZ n) O<|mvZ (iZ n) O<|tkZ h (λhg h=>aa<|zj O hg<|aa<|tm O O<|aa<|clZ O<|kV h λr h=>asZ (ae r) O<|aD<|gv1 hrg<|hQ _ h)
theorem ie {n:Int} {Q:GRat->Prop} (h:d5 n Q) (hQ:∀r1,Q r1->R (ac r1) S) :
  Ctr Tryz.prog 120 [iZ n] S R:=by
 refine aL Tryz.func120 rfl Tryz.ntmps120 Tryz.results120 krZ (λrg hrg=>?_)
 exact af<|wZ rg<|aX bh co (kk:=3) O (λg1=>aU<|mvZ (iZ n) O<|aa<|a9 O O<|mvZ (iZ n) O<|aa<|clZ O<|mO h λr h=>aa<|clZ O<|gy h λr1 h=>aa<|clZ O<|cy h λr2 h=>aa<|au (aZ 2 O) ay dZ O (w:=ac r2) O O O (v:=ac r2) O aY<|aD<|aT (aZ 2 O) ay dZ aW O O (v:=ac r2) O<|aH<|goZ hrg<|hQ _ h)
end Go.Proofs.YtnjgdkfhgmebjaaGreat
