/- Walks of functions. Conditions: none. -/
import Derived.Test.YtnjgdkfhgmebjaaGreatWa
import Derived.Test.YtnjgdkfhgmebjaaGreatGgTy
import Derived.Test.YtnjgdkfhgmebjaaGreatGd
import Derived.Test.YtnjgdkfhgmebjaaGreatK1
namespace Go.Proofs.YtnjgdkfhgmebjaaGreat
open Go.Gg Tryz
set_option maxRecDepth 100000
variable {S:St} {R:AV->St->Prop}
theorem oz {kind:Int} {n:Int} {Q:Bool->Prop} (h:iB kind n Q) (hQ:∀r1,Q r1->R (AV.bool r1) S) :
  Ctr prog 156 [iZ kind,iZ n] S R:=by
 refine aI func156 rfl ntmps156 results156 krZ (λrg hrg=>?_)
 refine aj<|asZ (.bool false) O<|nZ<|qZ<|aj<|mvZ (iZ kind) O<|nZ<|bZ<|aj<|ac<|bK O O<|asZ (.bool<|kind == 0) O<|nZ<|cZ h O (λhb h=>?_) (λhb h=>?_)
 ·exact aj<|mvZ (iZ n) O<|ac<|bK O O<|asZ (.bool<|n == 0) O<|aE<|gv1 hrg<|hQ _ h
 refine aj<|ac<|bK O O<|asZ (.bool<|kind == 1) O<|nZ<|cZ h O (λhb1 h=>?_) (λhb1 h=>?_)
 ·exact aj<|mvZ (iZ n) O<|ac<|bK O O<|asZ (.bool<|n == 1) O<|aE<|gv1 hrg<|hQ _ h
 refine kZ<|aj<|mvZ (iZ n) O<|ac<|fB O O<|mvZ (.bool<|decide<|1<=n) O<|gtZ h O O (λhb2 h=>?_) (λhb2 h=>?_)
 ·exact mvZ (iZ n) O<|gTZ O O hb2<|ac<|ta O O<|ac<|be O hb2 (v:=.bool (decide<|n<=16)) O (asZ (.bool<|decide<|n<=16) O<|aE<|gv1 hrg<|hQ _ h)
 exact gFZ O O hb2 O<|ac<|bd O hb2 (v:=.bool false) O<|asZ (.bool false) O<|aE<|gv1 hrg<|hQ _ h
theorem oy {f:GFormula} {i:Int} {Q:Option Int->Prop} (h:iA f i Q) (hQ:∀r1,Q r1->R (aY 82 r1) S) :
  Ctr prog 78 [an f,iZ i] S R:=by
 refine aI func78 rfl ntmps78 results78 krZ (λrg hrg=>?_)
 refine aj<|wZ rg<|bC (v:=an f) O O (kk:=3) O dZ (λg1=>asZ .niface O<|aU<|ac<|aF b6 O<|ac<|af (aZ 2 O) eJ fv O O (v:=eL bb f.V) O<|mvZ (iZ i) O<|tkZ h (λhg h=>ac<|aQ d5 cU dZ (λ_=>O) O O hg<|ac<|cn cU dZ rP O O (v:=bb (at' f.V i)) O<|wZ rg<|aW fx k_ (kk:=3) O (λg2=>ac<|ay (aZ 5 O) cU dZ O (w:=bb (at' f.V i)) O O O (v:=bb (at' f.V i)) O aV<|nZ<|qZ<|jgZ (γ:=Nat×Nat) h (λy=>ba [(1,iZ i),(2,.ptr rg 2 y.2.1 0 0),(5,.ptr rg 5 y.2.2 0 0),(20,.bool y.1)]) (λy=>stL S rg [(2,.arr 3 [an f],y.2.1),(5,.arr 3 [bb (at' f.V i)],y.2.2)]) (λy h=>?_) (λ_ h=>?_))))
 ·obtain⟨x,⟨g3,g4⟩⟩:=y
  refine cZ h O (λhb h=>?_) (λhb h=>?_)
  ·exact aj<|ac<|cm (by rw[gQ];trivial) (v:=iZ 7) O<|asZ (.iface 82<|iZ 7) O<|aE<|gv1 hrg<|hQ _ h
  refine kZ<|qZ<|aj<|ac<|aF ft O<|ac<|af (aZ 5 O) sz3 ag3 O O (v:=iZ ((at' f.V i).D)) O (ac<|aF eB O<|ac<|af (aZ 5 O) fo jc O O (v:=bt ((at' f.V i).M)) O (ac<|aJ bJ O<|ac<|clZ O<|oz h λr h=>ac<|gK O<|nZ<|cZ h O (λhb1 h=>?_) (λhb1 h=>?_)))
  ·exact aj<|ac<|cm (by rw[gQ];trivial) (v:=iZ 11) O<|asZ (.iface 82<|iZ 11) O<|aE<|gv1 hrg<|hQ _ h
  refine kZ<|qZ<|aj<|ac<|aF eB O<|ac<|af (aZ 5 O) fo jc O O (v:=bt ((at' f.V i).M)) O (ac<|aJ bJ O<|mvZ (iZ 0) O<|nZ<|bZ<|lgZ h (g3,g4) (λy=>ba [(1,iZ i),(2,.ptr rg 2 y.2.1 0 0),(5,.ptr rg 5 y.2.2 0 0),(31,bt ((at' f.V i).M)),(32,iZ (((at' f.V i).M).length:Int)),(33,iZ y.1)]) (λy=>stL S rg [(2,.arr 3 [an f],y.2.1),(5,.arr 3 [bb (at' f.V i)],y.2.2)]) (canon (aP<|fZ<|fZ<|fn)<|sc O<|sc O<|sn) (λy _ h=>?_))
  obtain⟨x1,⟨g5,g6⟩⟩:=y
  refine aj<|ac<|bj O O<|nZ<|qZ<|cZ h O (λhb2 h=>?_) (λhb2 h=>?_)
  ·refine kZ<|qZ<|bZ<|aj<|tkZ h (λhg1 h=>ac<|aQ bJ sz3 dZ (λ_=>O) O O hg1<|ac<|aL sz3 ag3 O O (v:=iZ (at' ((at' f.V i).M) x1)) O (asZ (iZ<|at' ((at' f.V i).M) x1) O<|nZ<|jgZ (γ:=Nat×Nat) h (λy=>ba [(1,iZ i),(2,.ptr rg 2 y.2.1 0 0),(5,.ptr rg 5 y.2.2 0 0),(31,bt ((at' f.V i).M)),(32,iZ (((at' f.V i).M).length:Int)),(33,iZ x1),(46,.bool y.1)]) (λy=>stL S rg [(2,.arr 3 [an f],y.2.1),(5,.arr 3 [bb (at' f.V i)],y.2.2)]) (λy h=>?_) (λ_ h=>?_)))
   ·obtain⟨x2,⟨g7,g8⟩⟩:=y
    refine cZ h O (λhb3 h=>?_) (λhb3 h=>?_)
    ·exact aj<|ac<|cm (by rw[gQ];trivial) (v:=iZ 10) O<|asZ (.iface 82<|iZ 10) O<|aE<|gv1 hrg<|hQ _ h
    exact kZ<|rZ<|tkZ h (λhg2 h=>ac<|aG O O hg2<|mvZ (iZ<|x1+1) O<|nZ<|⟨((x1+1),(g7,g8)),(canon (aP<|fZ<|fZ<|fn)<|sc O<|sc O<|sn),h⟩)
   refine rZ<|mvZ (iZ<|at' ((at' f.V i).M) x1) O<|ac<|bj O O<|mvZ (.bool<|decide<|(at' ((at' f.V i).M) x1)<0) O (gfZ h O O (λhb4 h=>?_) (λhb4 h=>?_))
   ·exact mvZ (iZ<|at' ((at' f.V i).M) x1) O<|gTZ O O hb4<|ac<|aF cd O<|gTZ O O hb4<|ac<|af (aZ 2 O) sz3 ag3 O O (v:=iZ f.A) O<|gTZ O O hb4<|mvZ (iZ i) O<|gTZ O O hb4<|tkZ h (λhg3 h=>ac<|aG O O hg3<|gTZ O O hb4<|ac<|fB O O<|ac<|bd O hb4 (v:=.bool (decide<|(f.A+i)<=(at' ((at' f.V i).M) x1))) O (nZ<|⟨((decide<|(f.A+i)<=(at' ((at' f.V i).M) x1)),(g5,g6)),(canon (aP<|fZ<|fZ<|fZ<|fn)<|sc O<|sc O<|sn),h⟩))
   exact gFZ O O hb4 O<|gFZ O O hb4 O<|gFZ O O hb4 O<|gFZ O O hb4 O<|gFZ O O hb4 O<|ac<|be O hb4 (v:=.bool true) O<|nZ<|⟨(true,(g5,g6)),(canon (aP<|fZ<|fZ<|fZ<|fn)<|sc O<|sc O<|sn),h⟩
  refine xsZ<|qZ<|aj<|ac<|aF ft O<|ac<|af (aZ 5 O) sz3 ag3 O O (v:=iZ ((at' f.V i).D)) O (nZ<|bZ<|aj<|ac<|bK O O<|asZ (.bool<|(at' f.V i).D == 0) O<|nZ<|cZ h O (λhb5 h=>?_) (λhb5 h=>?_))
  ·refine jnZ h (λy=>ba [(64,.bool y)]) (λy=>stL S rg []) (λx3 h=>?_) (λ_ h=>?_)
   ·refine cZ h O (λhb6 h=>?_) (λhb6 h=>?_)
    ·exact aj<|ac<|cm (by rw[gQ];trivial) (v:=iZ 3) O<|asZ (.iface 82<|iZ 3) O<|aE<|gv1 hrg<|hQ _ h
    exact kZ<|aj<|asZ .niface O<|aE<|gv1 hrg<|hQ _ h
   refine rZ<|ac<|aF dW O<|ac<|af (aZ 5 O) sz3 ag3 O O (v:=iZ ((at' f.V i).K)) O (ac<|c8 O O<|mvZ (.bool<|(at' f.V i).K != 0) O<|gtZ h O O (λhb7 h=>?_) (λhb7 h=>?_))
   ·exact ac<|aF dW O<|gTZ O O hb7<|ac<|af (aZ 5 O) sz3 ag3 O O (v:=iZ ((at' f.V i).K)) O (gTZ O O hb7<|ac<|c8 O O<|ac<|be O hb7 (v:=.bool ((at' f.V i).K != 1)) O (nZ<|⟨((at' f.V i).K != 1),(canon (fZ<|fn)<|sn),h⟩))
   exact gFZ O O hb7 O<|gFZ O O hb7 O<|ac<|bd O hb7 (v:=.bool false) O<|nZ<|⟨false,(canon (fZ<|fn)<|sn),h⟩
  refine aj<|ac<|bK O O<|asZ (.bool<|(at' f.V i).D == 4) O<|nZ<|cZ h O (λhb8 h=>?_) (λhb8 h=>?_)
  ·refine jnZ h (λy=>ba [(78,.bool y)]) (λy=>stL S rg []) (λx4 h=>?_) (λ_ h=>?_)
   ·refine cZ h O (λhb9 h=>?_) (λhb9 h=>?_)
    ·exact aj<|ac<|cm (by rw[gQ];trivial) (v:=iZ 3) O<|asZ (.iface 82<|iZ 3) O<|aE<|gv1 hrg<|hQ _ h
    exact kZ<|aj<|asZ .niface O<|aE<|gv1 hrg<|hQ _ h
   refine rZ<|ac<|aF dW O<|ac<|af (aZ 5 O) sz3 ag3 O O (v:=iZ ((at' f.V i).K)) O (ac<|bj O O<|mvZ (.bool<|decide<|(at' f.V i).K<1) O<|gfZ h O O (λhb10 h=>?_) (λhb10 h=>?_))
   ·exact ac<|aF dW O<|gTZ O O hb10<|ac<|af (aZ 5 O) sz3 ag3 O O (v:=iZ ((at' f.V i).K)) O (gTZ O O hb10<|ac<|aF eB O<|gTZ O O hb10<|ac<|af (aZ 5 O) fo jc O O (v:=bt ((at' f.V i).M)) O (gTZ O O hb10<|ac<|aJ bJ O<|gTZ O O hb10<|ac<|c9 O O<|ac<|bd O hb10 (v:=.bool (decide<|(((at' f.V i).M).length:Int)<(at' f.V i).K)) O (nZ<|⟨(decide<|(((at' f.V i).M).length:Int)<(at' f.V i).K),(canon (fZ<|fn)<|sn),h⟩)))
   exact gFZ O O hb10 O<|gFZ O O hb10 O<|gFZ O O hb10 O<|gFZ O O hb10 O<|gFZ O O hb10 O<|ac<|be O hb10 (v:=.bool true) O<|nZ<|⟨true,(canon (fZ<|fn)<|sn),h⟩
  refine aj<|ac<|aF dW O<|ac<|af (aZ 5 O) sz3 ag3 O O (v:=iZ ((at' f.V i).K)) O (ac<|c8 O O<|nZ<|cZ h O (λhb11 h=>?_) (λhb11 h=>?_))
  ·exact aj<|ac<|cm (by rw[gQ];trivial) (v:=iZ 2) O<|asZ (.iface 82<|iZ 2) O<|aE<|gv1 hrg<|hQ _ h
  exact kZ<|aj<|asZ .niface O<|aE<|gv1 hrg<|hQ _ h
 refine rZ<|ac<|aF ft O<|ac<|af (aZ 5 O) sz3 ag3 O O (v:=iZ ((at' f.V i).D)) O (ac<|bj O O<|mvZ (.bool<|decide<|(at' f.V i).D<0) O<|gfZ h O O (λhb12 h=>?_) (λhb12 h=>?_))
 ·exact ac<|aF ft O<|gTZ O O hb12<|ac<|af (aZ 5 O) sz3 ag3 O O (v:=iZ ((at' f.V i).D)) O (gTZ O O hb12<|ac<|c9 O O<|ac<|bd O hb12 (v:=.bool (decide<|5<(at' f.V i).D)) O (nZ<|⟨((decide<|5<(at' f.V i).D),(g1,g2)),(canon (aP<|fn)<|sc O<|sc O<|sn),h⟩))
 exact gFZ O O hb12 O<|gFZ O O hb12 O<|ac<|be O hb12 (v:=.bool true) O<|nZ<|⟨(true,(g1,g2)),(canon (aP<|fn)<|sc O<|sc O<|sn),h⟩
theorem rD {f:GFormula} {arg:Int} {Q:Bool->Prop} (h:kT f arg Q) (hQ:∀r1,Q r1->R (AV.bool r1) S) :
  Ctr prog 79 [an f,iZ arg] S R:=by
 refine aI func79 rfl ntmps79 results79 krZ (λrg hrg=>?_)
 refine aj<|wZ rg<|bC (v:=an f) O O (kk:=3) O dZ (λg1=>asZ (.bool false) O<|aU<|ac<|aF cd O<|ac<|af (aZ 2 O) sz3 ag3 O O (v:=iZ f.A) O<|ac<|fB O O<|mvZ (.bool<|decide<|0<=f.A) O<|gtZ h O O (λhb h=>?_) (λhb h=>?_))
 ·refine mvZ (iZ arg) O<|gTZ O O hb<|ac<|fB O O<|ac<|be O hb (v:=.bool (decide<|0<=arg)) O (mvZ (.bool<|decide<|0<=arg) O<|gtZ h O O (λhb1 h=>?_) (λhb1 h=>?_))
  ·refine mvZ (iZ arg) O<|gTZ O O hb1<|ac<|aF cd O<|gTZ O O hb1<|ac<|af (aZ 2 O) sz3 ag3 O O (v:=iZ f.A) O<|gTZ O O hb1<|ac<|bj O O<|gTZ O O hb1<|mvZ (.bool<|decide<|arg<f.A) O<|gfZ h O O (λhb2 h=>?_) (λhb2 h=>?_)
   ·exact mvZ (iZ arg) O<|gTZ O O hb2<|ac<|aF cd O<|gTZ O O hb2<|ac<|af (aZ 2 O) sz3 ag3 O O (v:=iZ f.A) O<|gTZ O O hb2<|tkZ h (λhg h=>ac<|bW O O hg<|gTZ O O hb2<|ac<|aF b6 O<|gTZ O O hb2<|ac<|af (aZ 2 O) eJ fv O O (v:=eL bb f.V) O<|gTZ O O hb2<|ac<|aJ d5 O<|gTZ O O hb2<|ac<|bj O O<|gTZ O O hb1<|ac<|bd O hb2 (v:=.bool (decide<|(arg-f.A)<(f.V.length:Int))) O (ac<|be O hb1 (v:=.bool (decide<|(arg-f.A)<(f.V.length:Int))) O (asZ (.bool<|decide<|(arg-f.A)<(f.V.length:Int)) O (aE<|gv1 hrg<|hQ _ h))))
   exact gFZ O O hb2 O<|gFZ O O hb2 O<|gFZ O O hb2 O<|gFZ O O hb2 O<|gFZ O O hb2 O<|gFZ O O hb2 O<|gFZ O O hb2 O<|gTZ O O hb1<|ac<|be O hb2 (v:=.bool true) O<|ac<|be O hb1 (v:=.bool true) O<|asZ (.bool true) O<|aE<|gv1 hrg<|hQ _ h
  exact gFZ O O hb1 O<|gFZ O O hb1 O<|gFZ O O hb1 O<|gFZ O O hb1 O<|gUZ O O<|gUZ O O<|gUZ O O<|gUZ O O<|gUZ O O<|gUZ O O<|gUZ O O<|gUZ O O<|gFZ O O hb1 O<|ac<|bd O hb1 (v:=.bool false) O<|asZ (.bool false) O<|aE<|gv1 hrg<|hQ _ h
 exact gFZ O O hb O<|ac<|bd O hb (v:=.bool false) O<|mvZ (.bool false) O<|gFZ O O O O<|gFZ O O O O<|gFZ O O O O<|gFZ O O O O<|gFZ O O O O<|gUZ O O<|gUZ O O<|gUZ O O<|gUZ O O<|gUZ O O<|gUZ O O<|gUZ O O<|gUZ O O<|gFZ O O O O<|ac<|bd O O (v:=.bool false) O<|asZ (.bool false) O<|aE<|gv1 hrg<|hQ _ h
theorem ez {f:GFormula} {Q:Option Int->Prop} (h:du f Q) (hQ:∀r1,Q r1->R (aY 82 r1) S) :
  Ctr prog 23 [an f] S R:=by
 refine aI func23 rfl ntmps23 results23 krZ (λrg hrg=>?_)
 refine aj<|wZ rg<|bC (v:=an f) O O (kk:=3) O dZ (λg1=>asZ .niface O<|nZ<|qZ<|jgZ (γ:=Nat) h (λy=>ba [(1,.ptr rg 1 y.2 0 0),(12,.bool y.1)]) (λy=>stL S rg [(1,.arr 3 [an f],y.2)]) (λy h=>?_) (λ_ h=>?_))
 ·obtain⟨x,g2⟩:=y
  refine cZ h O (λhb h=>?_) (λhb h=>?_)
  ·exact aj<|ac<|cm (by rw[gQ];trivial) (v:=iZ 3) O<|asZ (.iface 82<|iZ 3) O<|aE<|gv1 hrg<|hQ _ h
  refine kZ<|qZ<|aj<|ac<|aF b6 O<|ac<|af (aZ 1 O) eJ fv O O (v:=eL bb f.V) O<|ac<|aJ d5 O<|ac<|c9 O O<|nZ<|cZ h O (λhb1 h=>?_) (λhb1 h=>?_)
  ·exact aj<|ac<|cm (by rw[gQ];trivial) (v:=iZ 4) O<|asZ (.iface 82<|iZ 4) O<|aE<|gv1 hrg<|hQ _ h
  refine kZ<|qZ<|aj<|ac<|aF b6 O<|ac<|af (aZ 1 O) eJ fv O O (v:=eL bb f.V) O<|ac<|aJ d5 O<|mvZ (iZ 0) O<|nZ<|bZ<|lpZ h (λy=>ba [(1,.ptr rg 1 g2 0 0),(21,iZ (f.V.length:Int)),(22,iZ y)]) (λy=>stL S rg [(1,.arr 3 [an f],g2)]) (canon (fZ<|fZ<|fZ<|fn)<|sc O<|sn) (λx1 _ h=>aj<|ac<|bj O O<|nZ<|qZ<|cZ h O (λhb2 h=>?_) (λhb2 h=>?_))
  ·refine kZ<|qZ<|bZ<|aj<|mvZ (iZ x1) O<|asZ (iZ x1) O<|aU<|ac<|aw (aZ 1 O) ct dZ fE O O (v:=an f) O<|mvZ (iZ x1) O<|ac<|clZ O<|oy h λe h=>asZ (aY 82 e) O<|aU<|mvZ (aY 82 e) O<|ac<|cK gk (E:=82) O O O<|nZ<|cZ h O (λhb3 h=>?_) (λhb3 h=>?_)
   ·exact aj<|mvZ (aY 82 e) O<|asZ (aY 82 e) O<|aE<|gv1 hrg<|hQ _ h
   exact kZ<|rZ<|tkZ h (λhg h=>ac<|aG O O hg<|mvZ (iZ<|x1+1) O<|nZ<|⟨(x1+1),(canon (fZ<|fZ<|fZ<|fn)<|sc O<|sn),h⟩)
  refine xsZ<|qZ<|aj<|ac<|aw (aZ 1 O) ct dZ fE O O (v:=an f) O<|ac<|aF jA O<|ac<|af (aZ 1 O) sz3 ag3 O O (v:=iZ f.F) O<|ac<|clZ O<|rD h λr h=>ac<|gK O<|nZ<|cZ h O (λhb4 h=>?_) (λhb4 h=>?_)
  ·exact aj<|ac<|cm (by rw[gQ];trivial) (v:=iZ 10) O<|asZ (.iface 82<|iZ 10) O<|aE<|gv1 hrg<|hQ _ h
  exact kZ<|aj<|asZ .niface O<|aE<|gv1 hrg<|hQ _ h
 refine rZ<|ac<|aF cd O<|ac<|af (aZ 1 O) sz3 ag3 O O (v:=iZ f.A) O<|ac<|bj O O<|mvZ (.bool<|decide<|f.A<0) O<|gfZ h O O (λhb5 h=>?_) (λhb5 h=>?_)
 ·exact ac<|aF cd O<|gTZ O O hb5<|ac<|af (aZ 1 O) sz3 ag3 O O (v:=iZ f.A) O<|gTZ O O hb5<|ac<|c9 O O<|ac<|bd O hb5 (v:=.bool (decide<|24<f.A)) O (nZ<|⟨((decide<|24<f.A),g1),(canon (fZ<|fZ<|fn)<|sc O<|sn),h⟩)
 exact gFZ O O hb5 O<|gFZ O O hb5 O<|ac<|be O hb5 (v:=.bool true) O<|nZ<|⟨(true,g1),(canon (fZ<|fZ<|fn)<|sc O<|sn),h⟩
theorem uE {f:GFormula} {i:Int} {Q:Int->Prop} (h:nO f i Q) (hQ:∀r1,Q r1->R (iZ r1) S) :
  Ctr prog 157 [an f,iZ i] S R:=by
 refine aI func157 rfl ntmps157 results157 krZ (λrg hrg=>?_)
 refine aj<|wZ rg<|bC (v:=an f) O O (kk:=3) O dZ (λg1=>asZ (iZ 0) O<|aU<|ac<|aF b6 O<|ac<|af (aZ 2 O) eJ fv O O (v:=eL bb f.V) O<|mvZ (iZ i) O<|tkZ h (λhg h=>ac<|aQ d5 cU dZ (λ_=>O) O O hg<|ac<|cn cU dZ rP O O (v:=bb (at' f.V i)) O<|wZ rg<|aW fx k_ (kk:=3) O (λg2=>ac<|ay (aZ 5 O) cU dZ O (w:=bb (at' f.V i)) O O O (v:=bb (at' f.V i)) O aV<|aU<|asZ (iZ 1) O<|asZ (iZ 16) O<|nZ<|jgZ (γ:=Nat×Nat) h (λy=>ba [(1,iZ i),(2,.ptr rg 2 y.2.1 0 0),(5,.ptr rg 5 y.2.2 0 0),(6,iZ y.1.1),(7,iZ y.1.2)]) (λy=>stL S rg [(2,.arr 3 [an f],y.2.1),(5,.arr 3 [bb (at' f.V i)],y.2.2)]) (λy h=>?_) (λ_ h=>?_))))
 ·obtain⟨⟨least,most⟩,⟨g3,g4⟩⟩:=y
  refine qZ<|aj<|ac<|aF eB O<|ac<|af (aZ 5 O) fo jc O O (v:=bt ((at' f.V i).M)) O (ac<|aJ bJ O<|mvZ (iZ least) O<|ac<|bj O O<|mvZ (.bool<|decide<|(((at' f.V i).M).length:Int)<least) O (gfZ h O O (λhb h=>?_) (λhb h=>?_)))
  ·refine ac<|aF eB O<|gTZ O O hb<|ac<|af (aZ 5 O) fo jc O O (v:=bt ((at' f.V i).M)) O (gTZ O O hb<|ac<|aJ bJ O<|gTZ O O hb<|mvZ (iZ most) O<|gTZ O O hb<|ac<|c9 O O<|ac<|bd O hb (v:=.bool (decide<|most<(((at' f.V i).M).length:Int))) O (nZ<|cZ h O (λhb1 h=>?_) (λhb1 h=>?_)))
   ·exact aj<|asZ (iZ 11) O<|aE<|gv1 hrg<|hQ _ h
   refine kZ<|qZ<|aj<|ac<|aF eB O<|ac<|af (aZ 5 O) fo jc O O (v:=bt ((at' f.V i).M)) O (ac<|aJ bJ O<|mvZ (iZ 0) O<|nZ<|bZ<|lpZ h (λy=>ba [(1,iZ i),(2,.ptr rg 2 g3 0 0),(5,.ptr rg 5 g4 0 0),(39,bt ((at' f.V i).M)),(40,iZ (((at' f.V i).M).length:Int)),(41,iZ y)]) (λy=>stL S rg [(2,.arr 3 [an f],g3),(5,.arr 3 [bb (at' f.V i)],g4)]) (canon (aP<|fZ<|fZ<|fn)<|sc O<|sc O<|sn) (λx _ h=>aj<|ac<|bj O O<|nZ<|qZ<|cZ h O (λhb2 h=>?_) (λhb2 h=>?_)))
   ·refine kZ<|qZ<|bZ<|aj<|tkZ h (λhg1 h=>ac<|aQ bJ sz3 dZ (λ_=>O) O O hg1<|ac<|aL sz3 ag3 O O (v:=iZ (at' ((at' f.V i).M) x)) O (asZ (iZ<|at' ((at' f.V i).M) x) O<|aU<|mvZ (iZ<|at' ((at' f.V i).M) x) O<|ac<|bj O O<|mvZ (.bool<|decide<|(at' ((at' f.V i).M) x)<0) O (gfZ h O O (λhb3 h=>?_) (λhb3 h=>?_))))
    ·refine mvZ (iZ<|at' ((at' f.V i).M) x) O<|gTZ O O hb3<|ac<|aF cd O<|gTZ O O hb3<|ac<|af (aZ 2 O) sz3 ag3 O O (v:=iZ f.A) O<|gTZ O O hb3<|mvZ (iZ i) O<|gTZ O O hb3<|tkZ h (λhg2 h=>ac<|aG O O hg2<|gTZ O O hb3<|ac<|fB O O<|ac<|bd O hb3 (v:=.bool (decide<|(f.A+i)<=(at' ((at' f.V i).M) x))) O (nZ<|cZ h O (λhb4 h=>?_) (λhb4 h=>?_)))
     ·exact aj<|asZ (iZ 10) O<|aE<|gv1 hrg<|hQ _ h
     exact kZ<|rZ<|tkZ h (λhg3 h=>ac<|aG O O hg3<|mvZ (iZ<|x+1) O<|nZ<|⟨(x+1),(canon (aP<|fZ<|fZ<|fn)<|sc O<|sc O<|sn),h⟩)
    exact gFZ O O hb3 O<|gFZ O O hb3 O<|gFZ O O hb3 O<|gFZ O O hb3 O<|gFZ O O hb3 O<|ac<|be O hb3 (v:=.bool true) O<|nZ<|cTZ O O<|aj<|asZ (iZ 10) O<|aE<|gv1 hrg<|hQ _ h
   refine xsZ<|qZ<|aj<|ac<|aF ft O<|ac<|af (aZ 5 O) sz3 ag3 O O (v:=iZ ((at' f.V i).D)) O (nZ<|bZ<|aj<|ac<|bK O O<|asZ (.bool<|(at' f.V i).D == 0) O<|nZ<|cZ h O (λhb5 h=>?_) (λhb5 h=>?_))
   ·refine aj<|ac<|aF dW O<|ac<|af (aZ 5 O) sz3 ag3 O O (v:=iZ ((at' f.V i).K)) O (ac<|c8 O O<|mvZ (.bool<|(at' f.V i).K != 0) O<|gtZ h O O (λhb6 h=>?_) (λhb6 h=>?_))
    ·refine ac<|aF dW O<|gTZ O O hb6<|ac<|af (aZ 5 O) sz3 ag3 O O (v:=iZ ((at' f.V i).K)) O (gTZ O O hb6<|ac<|c8 O O<|ac<|be O hb6 (v:=.bool ((at' f.V i).K != 1)) O (nZ<|cZ h O (λhb7 h=>?_) (λhb7 h=>?_)))
     ·exact aj<|asZ (iZ 3) O<|aE<|gv1 hrg<|hQ _ h
     exact kZ<|aj<|asZ (iZ 0) O<|aE<|gv1 hrg<|hQ _ h
    exact gFZ O O hb6 O<|gFZ O O hb6 O<|ac<|bd O hb6 (v:=.bool false) O<|nZ<|cFZ O O<|kZ<|aj<|asZ (iZ 0) O<|aE<|gv1 hrg<|hQ _ h
   refine aj<|ac<|bK O O<|asZ (.bool<|(at' f.V i).D == 4) O<|nZ<|cZ h O (λhb8 h=>?_) (λhb8 h=>?_)
   ·refine aj<|ac<|aF dW O<|ac<|af (aZ 5 O) sz3 ag3 O O (v:=iZ ((at' f.V i).K)) O (ac<|bj O O<|mvZ (.bool<|decide<|(at' f.V i).K<1) O<|gfZ h O O (λhb9 h=>?_) (λhb9 h=>?_))
    ·refine ac<|aF dW O<|gTZ O O hb9<|ac<|af (aZ 5 O) sz3 ag3 O O (v:=iZ ((at' f.V i).K)) O (gTZ O O hb9<|ac<|aF eB O<|gTZ O O hb9<|ac<|af (aZ 5 O) fo jc O O (v:=bt ((at' f.V i).M)) O (gTZ O O hb9<|ac<|aJ bJ O<|gTZ O O hb9<|ac<|c9 O O<|ac<|bd O hb9 (v:=.bool (decide<|(((at' f.V i).M).length:Int)<(at' f.V i).K)) O (nZ<|cZ h O (λhb10 h=>?_) (λhb10 h=>?_))))
     ·exact aj<|asZ (iZ 3) O<|aE<|gv1 hrg<|hQ _ h
     exact kZ<|aj<|asZ (iZ 0) O<|aE<|gv1 hrg<|hQ _ h
    exact gFZ O O hb9 O<|gFZ O O hb9 O<|gFZ O O hb9 O<|gFZ O O hb9 O<|gFZ O O hb9 O<|ac<|be O hb9 (v:=.bool true) O<|nZ<|cTZ O O<|aj<|asZ (iZ 3) O<|aE<|gv1 hrg<|hQ _ h
   refine aj<|ac<|aF dW O<|ac<|af (aZ 5 O) sz3 ag3 O O (v:=iZ ((at' f.V i).K)) O (ac<|c8 O O<|nZ<|cZ h O (λhb11 h=>?_) (λhb11 h=>?_))
   ·exact aj<|asZ (iZ 2) O<|aE<|gv1 hrg<|hQ _ h
   exact kZ<|aj<|asZ (iZ 0) O<|aE<|gv1 hrg<|hQ _ h
  exact gFZ O O hb O<|gFZ O O hb O<|gFZ O O hb O<|gFZ O O hb O<|ac<|be O hb (v:=.bool true) O<|nZ<|cTZ O O<|aj<|asZ (iZ 11) O<|aE<|gv1 hrg<|hQ _ h
 refine aj<|ac<|aF ft O<|ac<|af (aZ 5 O) sz3 ag3 O O (v:=iZ ((at' f.V i).D)) O (nZ<|bZ<|aj<|ac<|bK O O<|asZ (.bool<|(at' f.V i).D == 0) O<|nZ<|cZ h O (λhb12 h=>?_) (λhb12 h=>?_))
 ·exact rZ<|asZ (iZ 0) O<|asZ (iZ 0) O<|nZ<|⟨((0,0),(g1,g2)),(canon (aP<|fZ<|fn)<|sc O<|sc O<|sn),h⟩
 refine aj<|ac<|bK O O<|asZ (.bool<|(at' f.V i).D == 1) O<|nZ<|cZ h O (λhb13 h=>?_) (λhb13 h=>?_)
 ·exact rZ<|asZ (iZ 1) O<|nZ<|⟨((1,1),(g1,g2)),(canon (aP<|fZ<|fn)<|sc O<|sc O<|sn),h⟩
 refine qZ<|aj<|ac<|bK O O<|asZ (.bool<|(at' f.V i).D == 2) O<|nZ<|cZ h O (λhb14 h=>?_) (λhb14 h=>?_)
 ·exact kZ<|cTZ O hb14<|kZ<|⟨((1,16),(g1,g2)),(canon (aP<|fZ<|fn)<|sc O<|sc O<|sn),h⟩
 refine aj<|ac<|bK O O<|asZ (.bool<|(at' f.V i).D == 3) O<|nZ<|cZ h O (λhb15 h=>?_) (λhb15 h=>?_)
 ·exact kZ<|cTZ O hb15<|kZ<|⟨((1,16),(g1,g2)),(canon (aP<|fZ<|fn)<|sc O<|sc O<|sn),h⟩
 refine aj<|ac<|bK O O<|asZ (.bool<|(at' f.V i).D == 4) O<|nZ<|cZ h O (λhb16 h=>?_) (λhb16 h=>?_)
 ·exact kZ<|cTZ O hb16<|kZ<|⟨((1,16),(g1,g2)),(canon (aP<|fZ<|fn)<|sc O<|sc O<|sn),h⟩
 refine rZ<|ac<|bK O O<|asZ (.bool<|(at' f.V i).D == 5) O<|nZ<|cZ h O (λhb17 h=>?_) (λhb17 h=>?_)
 ·exact kZ<|⟨((1,16),(g1,g2)),(canon (aP<|fZ<|fn)<|sc O<|sc O<|sn),h⟩
 exact aj<|asZ (iZ 7) O<|aE<|gv1 hrg<|hQ _ h
theorem tC {f:GFormula} {arg:Int} {Q:Bool->Prop} (h:mU f arg Q) (hQ:∀r1,Q r1->R (AV.bool r1) S) :
  Ctr prog 158 [an f,iZ arg] S R:=by
 refine aI func158 rfl ntmps158 results158 krZ (λrg hrg=>?_)
 refine aj<|wZ rg<|bC (v:=an f) O O (kk:=3) O dZ (λg1=>asZ (.bool false) O<|aU<|ac<|aF cd O<|ac<|af (aZ 2 O) sz3 ag3 O O (v:=iZ f.A) O<|ac<|fB O O<|mvZ (.bool<|decide<|0<=f.A) O<|gtZ h O O (λhb h=>?_) (λhb h=>?_))
 ·refine mvZ (iZ arg) O<|gTZ O O hb<|ac<|fB O O<|ac<|be O hb (v:=.bool (decide<|0<=arg)) O (mvZ (.bool<|decide<|0<=arg) O<|gtZ h O O (λhb1 h=>?_) (λhb1 h=>?_))
  ·refine mvZ (iZ arg) O<|gTZ O O hb1<|ac<|aF cd O<|gTZ O O hb1<|ac<|af (aZ 2 O) sz3 ag3 O O (v:=iZ f.A) O<|gTZ O O hb1<|ac<|bj O O<|gTZ O O hb1<|mvZ (.bool<|decide<|arg<f.A) O<|gfZ h O O (λhb2 h=>?_) (λhb2 h=>?_)
   ·exact mvZ (iZ arg) O<|gTZ O O hb2<|ac<|aF cd O<|gTZ O O hb2<|ac<|af (aZ 2 O) sz3 ag3 O O (v:=iZ f.A) O<|gTZ O O hb2<|tkZ h (λhg h=>ac<|bW O O hg<|gTZ O O hb2<|ac<|aF b6 O<|gTZ O O hb2<|ac<|af (aZ 2 O) eJ fv O O (v:=eL bb f.V) O<|gTZ O O hb2<|ac<|aJ d5 O<|gTZ O O hb2<|ac<|bj O O<|gTZ O O hb1<|ac<|bd O hb2 (v:=.bool (decide<|(arg-f.A)<(f.V.length:Int))) O (ac<|be O hb1 (v:=.bool (decide<|(arg-f.A)<(f.V.length:Int))) O (asZ (.bool<|decide<|(arg-f.A)<(f.V.length:Int)) O (aE<|gv1 hrg<|hQ _ h))))
   exact gFZ O O hb2 O<|gFZ O O hb2 O<|gFZ O O hb2 O<|gFZ O O hb2 O<|gFZ O O hb2 O<|gFZ O O hb2 O<|gFZ O O hb2 O<|gTZ O O hb1<|ac<|be O hb2 (v:=.bool true) O<|ac<|be O hb1 (v:=.bool true) O<|asZ (.bool true) O<|aE<|gv1 hrg<|hQ _ h
  exact gFZ O O hb1 O<|gFZ O O hb1 O<|gFZ O O hb1 O<|gFZ O O hb1 O<|gUZ O O<|gUZ O O<|gUZ O O<|gUZ O O<|gUZ O O<|gUZ O O<|gUZ O O<|gUZ O O<|gFZ O O hb1 O<|ac<|bd O hb1 (v:=.bool false) O<|asZ (.bool false) O<|aE<|gv1 hrg<|hQ _ h
 exact gFZ O O hb O<|ac<|bd O hb (v:=.bool false) O<|mvZ (.bool false) O<|gFZ O O O O<|gFZ O O O O<|gFZ O O O O<|gFZ O O O O<|gFZ O O O O<|gUZ O O<|gUZ O O<|gUZ O O<|gUZ O O<|gUZ O O<|gUZ O O<|gUZ O O<|gUZ O O<|gFZ O O O O<|ac<|bd O O (v:=.bool false) O<|asZ (.bool false) O<|aE<|gv1 hrg<|hQ _ h
theorem tD {f:GFormula} {Q:Int->Prop} (h:mV f Q) (hQ:∀r1,Q r1->R (iZ r1) S) :
  Ctr prog 80 [an f] S R:=by
 refine aI func80 rfl ntmps80 results80 krZ (λrg hrg=>?_)
 refine aj<|wZ rg<|bC (v:=an f) O O (kk:=3) O dZ (λg1=>asZ (iZ 0) O<|nZ<|qZ<|aj<|ac<|aF cd O<|ac<|af (aZ 1 O) sz3 ag3 O O (v:=iZ f.A) O<|ac<|bj O O<|mvZ (.bool<|decide<|f.A<0) O<|gfZ h O O (λhb h=>?_) (λhb h=>?_))
 ·refine ac<|aF cd O<|gTZ O O hb<|ac<|af (aZ 1 O) sz3 ag3 O O (v:=iZ f.A) O<|gTZ O O hb<|ac<|c9 O O<|ac<|bd O hb (v:=.bool (decide<|24<f.A)) O (nZ<|cZ h O (λhb1 h=>?_) (λhb1 h=>?_))
  ·exact aj<|asZ (iZ 3) O<|aE<|gv1 hrg<|hQ _ h
  refine kZ<|qZ<|aj<|ac<|aF b6 O<|ac<|af (aZ 1 O) eJ fv O O (v:=eL bb f.V) O<|ac<|aJ d5 O<|ac<|c9 O O<|nZ<|cZ h O (λhb2 h=>?_) (λhb2 h=>?_)
  ·exact aj<|asZ (iZ 4) O<|aE<|gv1 hrg<|hQ _ h
  refine kZ<|qZ<|aj<|ac<|aF b6 O<|ac<|af (aZ 1 O) eJ fv O O (v:=eL bb f.V) O<|ac<|aJ d5 O<|mvZ (iZ 0) O<|nZ<|bZ<|lpZ h (λy=>ba [(1,.ptr rg 1 g1 0 0),(19,iZ (f.V.length:Int)),(20,iZ y)]) (λy=>stL S rg [(1,.arr 3 [an f],g1)]) (canon (fZ<|fZ<|fZ<|fn)<|sc O<|sn) (λx _ h=>aj<|ac<|bj O O<|nZ<|qZ<|cZ h O (λhb3 h=>?_) (λhb3 h=>?_))
  ·refine kZ<|qZ<|bZ<|aj<|mvZ (iZ x) O<|asZ (iZ x) O<|aU<|ac<|aw (aZ 1 O) ct dZ fE O O (v:=an f) O<|mvZ (iZ x) O<|ac<|clZ O<|uE h λe h=>asZ (iZ e) O<|aU<|mvZ (iZ e) O<|ac<|c8 O O<|nZ<|cZ h O (λhb4 h=>?_) (λhb4 h=>?_)
   ·exact aj<|mvZ (iZ e) O<|asZ (iZ e) O<|aE<|gv1 hrg<|hQ _ h
   exact kZ<|rZ<|tkZ h (λhg h=>ac<|aG O O hg<|mvZ (iZ<|x+1) O<|nZ<|⟨(x+1),(canon (fZ<|fZ<|fZ<|fn)<|sc O<|sn),h⟩)
  refine xsZ<|qZ<|aj<|ac<|aw (aZ 1 O) ct dZ fE O O (v:=an f) O<|ac<|aF jA O<|ac<|af (aZ 1 O) sz3 ag3 O O (v:=iZ f.F) O<|ac<|clZ O<|tC h λr h=>ac<|gK O<|nZ<|cZ h O (λhb5 h=>?_) (λhb5 h=>?_)
  ·exact aj<|asZ (iZ 10) O<|aE<|gv1 hrg<|hQ _ h
  exact kZ<|aj<|asZ (iZ 0) O<|aE<|gv1 hrg<|hQ _ h
 exact gFZ O O hb O<|gFZ O O hb O<|ac<|be O hb (v:=.bool true) O<|nZ<|cTZ O O<|aj<|asZ (iZ 3) O<|aE<|gv1 hrg<|hQ _ h
end Go.Proofs.YtnjgdkfhgmebjaaGreat
namespace Go.Proofs.YtnjgdkfhgmebjaaGreat
open Go.Gg Tryz
set_option maxRecDepth 100000
variable {S:St} {R:AV->St->Prop}
theorem rB {f:GFormula} {failed:Int} {Q:Option Int->Prop} (h:kQ f failed Q) (hQ:∀r1,Q r1->R (aY 82 r1) S) :
  Ctr prog 83 [an f,iZ failed] S R:=by
 refine aI func83 rfl ntmps83 results83 krZ (λrg hrg=>?_)
 refine aj<|wZ rg<|bC (v:=an f) O O (kk:=3) O dZ (λg1=>asZ .niface O<|nZ<|qZ<|aj<|ac<|aw (aZ 2 O) ct dZ fE O O (v:=an f) O<|ac<|clZ O<|ez h λe h=>asZ (aY 82 e) O<|aU<|mvZ (aY 82 e) O<|ac<|cK gk (E:=82) O O O<|nZ<|cZ h O (λhb h=>?_) (λhb h=>?_))
 ·exact aj<|mvZ (aY 82 e) O<|asZ (aY 82 e) O<|aE<|gv1 hrg<|hQ _ h
 refine kZ<|qZ<|jnZ h (λy=>ba [(19,.bool y)]) (λy=>stL S rg []) (λx h=>?_) (λ_ h=>?_)
 ·refine cZ h O (λhb1 h=>?_) (λhb1 h=>?_)
  ·exact aj<|ac<|cm (by rw[gQ];trivial) (v:=iZ 3) O<|asZ (.iface 82<|iZ 3) O<|aE<|gv1 hrg<|hQ _ h
  exact kZ<|aj<|asZ .niface O<|aE<|gv1 hrg<|hQ _ h
 refine rZ<|mvZ (iZ failed) O<|ac<|bj O O<|mvZ (.bool<|decide<|failed<0) O<|gfZ h O O (λhb2 h=>?_) (λhb2 h=>?_)
 ·exact mvZ (iZ failed) O<|gTZ O O hb2<|ac<|aF cd O<|gTZ O O hb2<|ac<|af (aZ 2 O) sz3 ag3 O O (v:=iZ f.A) O<|gTZ O O hb2<|tkZ h (λhg h=>ac<|Dv O O hg<|gTZ O O hb2<|ac<|fB O O<|ac<|bd O hb2 (v:=.bool (decide<|(1*2^(Int.toNat f.A))<=failed)) O (nZ<|⟨(decide<|(1*2^(Int.toNat f.A))<=failed),(canon (fZ<|fn)<|sn),h⟩))
 exact gFZ O O hb2 O<|gFZ O O hb2 O<|gFZ O O hb2 O<|gFZ O O hb2 O<|ac<|be O hb2 (v:=.bool true) O<|nZ<|⟨true,(canon (fZ<|fn)<|sn),h⟩
theorem qv {f:GFormula} {failed:Int} {Q:List Bool->Prop} (h:jS f failed Q) (hQ:∀r1,Q r1->R (eL AV.bool r1) S) :
  Ctr prog 84 [an f,iZ failed] S R:=by
 refine aI func84 rfl ntmps84 results84 krZ (λrg hrg=>?_)
 refine aj<|wZ rg<|bC (v:=an f) O O (kk:=3) O dZ (λg1=>asZ .nil O<|aU<|ac<|aF cd O<|ac<|af (aZ 2 O) sz3 ag3 O O (v:=iZ f.A) O<|ac<|aF cd O<|ac<|af (aZ 2 O) sz3 ag3 O O (v:=iZ f.A) O<|ac<|aF b6 O<|ac<|af (aZ 2 O) eJ fv O O (v:=eL bb f.V) O<|ac<|aJ d5 O<|tkZ h (λhg h=>ac<|aG O O hg<|tkZ h (λhg1 h=>wZ rg<|gb gH D' ok4 (enc:=AV.bool) (z':=false) zV (kk:=1) O O O hg1 (λg2=>asZ (.sl 1 rg 21 g2 0<|Int.toNat f.A) O<|nZ<|qZ<|aj<|mvZ (.sl 1 rg 21 g2 0<|Int.toNat f.A) O<|ac<|gW gH O<|mvZ (iZ 0) O<|nZ<|bZ<|lpZ h (λy=>ba [(1,iZ failed),(2,.ptr rg 2 g1 0 0),(5,.sl 1 rg 21 g2 0 y.2.length),(23,iZ ((Int.toNat f.A):Int)),(24,iZ y.1)]) (λy=>stL S rg [(2,.arr 3 [an f],g1),(21,.arr 1 (List.map AV.bool y.2),g2)]) (canon (fZ<|fZ<|fc (VW.slen lzZ)<|fZ<|fZ<|fn)<|sc O<|sc O<|sn) (λy _ h=>?_)))))
 obtain⟨x,v⟩:=y
 refine aj<|ac<|bj O O<|nZ<|qZ<|cZ h O (λhb h=>?_) (λhb h=>?_)
 ·exact kZ<|qZ<|bZ<|aj<|mvZ (iZ x) O<|asZ (iZ x) O<|nZ<|rZ<|mvZ (.sl 1 rg 21 g2 0 v.length) O<|mvZ (iZ x) O<|mvZ (iZ failed) O<|mvZ (iZ x) O<|tkZ h (λhg2 h=>ac<|i8 O O hg2<|ac<|DD O O<|ac<|bK O O<|tkZ h (λhi h=>ac<|bm gH sz4 dZ O O hi<|ac<|bR (aZ 21 O) sz4 dZ (x':=((bits .and .i64 (failed / 2^(Int.toNat x)) 1) == 1)) (λ_=>O) O O (bH hi lzZ) O O aV<|nZ<|rZ<|tkZ h (λhg3 h=>ac<|aG O O hg3<|mvZ (iZ<|x+1) O<|nZ<|⟨((x+1),(bu v x<|(bits .and .i64 (failed / 2^(Int.toNat x)) 1) == 1)),(canon (fZ<|fZ<|fc (VW.slen lzZ)<|fZ<|fZ<|fn)<|sc O<|sc O<|sn),h⟩)))
 refine xsZ<|qZ<|aj<|ac<|aF b6 O<|ac<|af (aZ 2 O) eJ fv O O (v:=eL bb f.V) O<|ac<|aJ d5 O<|mvZ (iZ 0) O<|nZ<|bZ<|lgZ h g2 (λy=>ba [(5,.sl 1 rg 21 y.2 0 y.1.2.length),(37,eL bb f.V),(38,iZ (f.V.length:Int)),(39,iZ y.1.1)]) (λy=>stL S rg [(21,.arr 1 (List.map AV.bool y.1.2),y.2)]) (canon (aP<|fn)<|sc O<|sn) (λy _ h=>?_)
 obtain⟨⟨x1,v1⟩,g3⟩:=y
 refine aj<|ac<|bj O O<|nZ<|qZ<|cZ h O (λhb1 h=>?_) (λhb1 h=>?_)
 ·refine kZ<|qZ<|bZ<|aj<|tkZ h (λhg4 h=>ac<|aQ d5 cU dZ (λ_=>O) O O hg4<|ac<|cn cU dZ rP O O (v:=bb (at' f.V x1)) O<|wZ rg<|aW fx k_ (kk:=3) O (λg4=>ac<|ay (aZ 8 O) cU dZ O (w:=bb (at' f.V x1)) O O O (v:=bb (at' f.V x1)) O aV<|aU<|asZ (iZ 0) O<|nZ<|qZ<|aj<|ac<|aF eB O<|ac<|af (aZ 8 O) fo jc O O (v:=bt ((at' f.V x1).M)) O (ac<|aJ bJ O<|mvZ (iZ 0) O<|nZ<|bZ<|lpZ h (λy=>ba [(5,.sl 1 rg 21 g3 0 v1.length),(8,.ptr rg 8 g4 0 0),(9,iZ y.1),(37,eL bb f.V),(38,iZ (f.V.length:Int)),(39,iZ x1),(44,bt ((at' f.V x1).M)),(45,iZ (((at' f.V x1).M).length:Int)),(46,iZ y.2)]) (λy=>stL S rg [(8,.arr 3 [bb (at' f.V x1)],g4),(21,.arr 1 (List.map AV.bool v1),g3)]) (canon (aP<|aP<|fZ<|fn)<|sc O<|sc O<|sn) (λy _ h=>?_))))
  obtain⟨n,x2⟩:=y
  refine aj<|ac<|bj O O<|nZ<|qZ<|cZ h O (λhb2 h=>?_) (λhb2 h=>?_)
  ·refine kZ<|qZ<|bZ<|aj<|tkZ h (λhg5 h=>ac<|aQ bJ sz3 dZ (λ_=>O) O O hg5<|ac<|aL sz3 ag3 O O (v:=iZ (at' ((at' f.V x1).M) x2)) O (asZ (iZ<|at' ((at' f.V x1).M) x2) O<|aU<|mvZ (.sl 1 rg 21 g3 0 v1.length) O<|mvZ (iZ<|at' ((at' f.V x1).M) x2) O<|tkZ h (λhi1 h=>ac<|bm gH sz4 dZ O O hi1<|ac<|cc (aZ 21 O) sz4 ag4 O (bH hi1 lzZ) O (v:=.bool (at' v1<|at' ((at' f.V x1).M) x2)) O (nZ<|cZ h O (λhb3 h=>?_) (λhb3 h=>?_)))))
   ·exact rZ<|mvZ (iZ n) O<|tkZ h (λhg6 h=>ac<|aG O O hg6<|asZ (iZ<|n+1) O<|nZ<|rZ<|tkZ h (λhg7 h=>ac<|aG O O hg7<|mvZ (iZ<|x2+1) O<|nZ<|⟨((n+1),(x2+1)),(canon (aP<|aP<|fZ<|fn)<|sc O<|sc O<|sn),h⟩))
   exact kZ<|rZ<|tkZ h (λhg8 h=>ac<|aG O O hg8<|mvZ (iZ<|x2+1) O<|nZ<|⟨(n,(x2+1)),(canon (aP<|aP<|fZ<|fn)<|sc O<|sc O<|sn),h⟩)
  refine xsZ<|aj<|asZ (.bool false) O<|nZ<|jgZ (γ:=Nat) h (λy=>ba [(5,.sl 1 rg 21 y.2 0 v1.length),(12,.bool y.1),(37,eL bb f.V),(38,iZ (f.V.length:Int)),(39,iZ x1)]) (λy=>stL S rg [(21,.arr 1 (List.map AV.bool v1),y.2)]) (λy h=>?_) (λ_ h=>?_)
  ·obtain⟨is,g5⟩:=y
   exact rZ<|mvZ (.sl 1 rg 21 g5 0 v1.length) O<|mvZ (.bool is) O<|wZ rg<|bq gH ok4 zV (es:=[.bool is]) O (kk:=1) O O O O O O (λg6=>tkZ h (λhg9 h=>wZ rg<|cS gH D' ok4 zV (es:=v1) (xs:=[is]) (enc:=AV.bool) (aZ 21 O) lzZ (bQ (aZ 92 O) lzZ) (kk:=1) O O (λ_=>O) (λ_=>O) hg9 O (λ_=>aV) (λg7=>asZ (.sl 1 rg 21 g7 0<|(v1++[is]).length) O<|nZ<|rZ<|tkZ h (λhg10 h=>ac<|aG O O hg10<|mvZ (iZ<|x1+1) O<|nZ<|⟨(((x1+1),(v1++[is])),g7),(canon (aP<|fn)<|sc O<|sn),h⟩))))
  refine aj<|ac<|aF ft O<|ac<|af (aZ 8 O) sz3 ag3 O O (v:=iZ ((at' f.V x1).D)) O (nZ<|bZ<|aj<|ac<|bK O O<|asZ (.bool<|(at' f.V x1).D == 0) O<|nZ<|cZ h O (λhb4 h=>?_) (λhb4 h=>?_))
  ·exact rZ<|ac<|aF dW O<|ac<|af (aZ 8 O) sz3 ag3 O O (v:=iZ ((at' f.V x1).K)) O (ac<|bK O O<|asZ (.bool<|(at' f.V x1).K == 1) O<|nZ<|⟨(((at' f.V x1).K == 1),g3),(canon (aP<|fZ<|fn)<|sc O<|sn),h⟩)
  refine aj<|ac<|bK O O<|asZ (.bool<|(at' f.V x1).D == 1) O<|nZ<|cZ h O (λhb5 h=>?_) (λhb5 h=>?_)
  ·exact rZ<|mvZ (iZ n) O<|ac<|bK O O<|asZ (.bool<|n == 0) O<|nZ<|⟨((n == 0),g3),(canon (aP<|fZ<|fn)<|sc O<|sn),h⟩
  refine aj<|ac<|bK O O<|asZ (.bool<|(at' f.V x1).D == 2) O<|nZ<|cZ h O (λhb6 h=>?_) (λhb6 h=>?_)
  ·exact rZ<|mvZ (iZ n) O<|ac<|aF eB O<|ac<|af (aZ 8 O) fo jc O O (v:=bt ((at' f.V x1).M)) O (ac<|aJ bJ O<|ac<|bK O O<|asZ (.bool<|n == (((at' f.V x1).M).length:Int)) O (nZ<|⟨((n == (((at' f.V x1).M).length:Int)),g3),(canon (aP<|fZ<|fn)<|sc O<|sn),h⟩))
  refine aj<|ac<|bK O O<|asZ (.bool<|(at' f.V x1).D == 3) O<|nZ<|cZ h O (λhb7 h=>?_) (λhb7 h=>?_)
  ·exact rZ<|mvZ (iZ n) O<|ac<|c9 O O<|asZ (.bool<|decide<|0<n) O<|nZ<|⟨((decide<|0<n),g3),(canon (aP<|fZ<|fn)<|sc O<|sn),h⟩
  refine aj<|ac<|bK O O<|asZ (.bool<|(at' f.V x1).D == 4) O<|nZ<|cZ h O (λhb8 h=>?_) (λhb8 h=>?_)
  ·exact rZ<|mvZ (iZ n) O<|ac<|aF dW O<|ac<|af (aZ 8 O) sz3 ag3 O O (v:=iZ ((at' f.V x1).K)) O (ac<|fB O O<|asZ (.bool<|decide<|(at' f.V x1).K<=n) O<|nZ<|⟨((decide<|(at' f.V x1).K<=n),g3),(canon (aP<|fZ<|fn)<|sc O<|sn),h⟩)
  refine aj<|ac<|bK O O<|asZ (.bool<|(at' f.V x1).D == 5) O<|nZ<|cZ h O (λhb9 h=>?_) (λhb9 h=>?_)
  ·exact rZ<|mvZ (iZ n) O<|ac<|Bh O O dZ<|ac<|bK O O<|asZ (.bool<|(Int.tmod n 2) == 1) O<|nZ<|⟨(((Int.tmod n 2) == 1),g3),(canon (aP<|fZ<|fn)<|sc O<|sn),h⟩
  exact kZ<|⟨(false,g3),(canon (aP<|fZ<|fn)<|sc O<|sn),h⟩
 exact xsZ<|aj<|mvZ (.sl 1 rg 21 g3 0 v1.length) O<|asZ (.sl 1 rg 21 g3 0 v1.length) O<|aE<|aC (v:=.sl 1 rg 21 g3 0 v1.length) O<|aK<|br (k:=21) (xs:=List.map AV.bool v1) O (v':=eL AV.bool v1) (bk O)<|goZ hrg<|hQ _ h
theorem rC {f:GFormula} {failed:Int} {Q:Bool->Option Int->Prop} (h:kS f failed Q) (hQ:∀r1 r2,Q r1 r2->R (.tuple [AV.bool r1,aY 82 r2]) S) :
  Ctr prog 25 [an f,iZ failed] S R:=by
 refine aI func25 rfl ntmps25 results25 krZ (λrg hrg=>?_)
 refine aj<|wZ rg<|bC (v:=an f) O O (kk:=3) O dZ (λg1=>asZ (.bool false) O<|asZ .niface O<|nZ<|qZ<|aj<|ac<|aw (aZ 2 O) ct dZ fE O O (v:=an f) O<|mvZ (iZ failed) O<|ac<|clZ O<|rB h λe h=>asZ (aY 82 e) O<|aU<|mvZ (aY 82 e) O<|ac<|cK gk (E:=82) O O O<|nZ<|cZ h O (λhb h=>?_) (λhb h=>?_))
 ·exact aj<|mvZ (aY 82 e) O<|asZ (.bool false) O<|asZ (aY 82 e) O<|aE<|aC (v:=.bool false) O<|aC (v:=aY 82 e) O<|aK<|aO hrg (VW.tupL<|vZ<|vZ<|vn)<|hQ _ _ h
 refine kZ<|qZ ?_
 obtain⟨r,hc,h⟩:=h
 exact tkZ h (λhg h=>Vc.drawn' bA rg (fH [(2,pc (eL AV.bool r))]) krZ<|dL (E:=([(rg,2)],[])) O O zSm (cfn) (aw (aZ 2 O) ct dZ fE O O (v:=an f) O<|dP O O<|aA (v:=iZ failed) O<|dC (vs:=[an f,iZ failed]) O (vZ<|vZ<|vn) (λ_=>qv hc (λ_ hr=>⟨by rw[hr],rfl⟩)) O<|dP O O<|aF jA O<|dL (E:=([(rg,2)],[])) O O zSm (cfa zAp<|cfn) (af (aZ 2 O) sz3 ag3 O O (v:=iZ f.F) O<|dP O O<|aQ gH sz4 dZ (λ_=>O) O O hg<|dP O O<|aL sz4 ag4 O O (v:=.bool (at' r f.F)) O<|dP O O<|a9 (v:=.bool (at' r f.F)) O<|dP O O<|a9 (v:=.niface) O<|dN<|uZ<|aC (v:=.bool (at' r f.F)) O<|aC (v:=.niface) O<|aK<|aO hrg (VW.tupL<|vZ<|vZ<|vn)<|hQ _ _ h)))
end Go.Proofs.YtnjgdkfhgmebjaaGreat
namespace Go.Proofs.YtnjgdkfhgmebjaaGreat
open Go.Gg Tryz
set_option maxRecDepth 100000
variable {S:St} {R:AV->St->Prop}
theorem lR {s:List Int} {Q:List Int->Prop} (h:fy s Q) (hQ:∀r1,Q r1->R (bt r1) S) :
  Ctr prog 143 [bt s] S R:=by
 refine aI func143 rfl ntmps143 results143 krZ (λrg hrg=>?_)
 refine aj<|asZ .nil O<|nZ<|qZ<|aj<|mvZ (bt s) O<|Wl.isnil bJ O O (λisnil hn=>?_)
 replace h:=h isnil hn
 refine nZ<|cZ h O (λhb h=>?_) (λhb h=>?_)
 ·exact aj<|asZ .nil O<|aE<|aC (v:=.nil) O<|aK<|aO hrg (VW.nilL)<|hQ _ h
 exact kZ<|aj<|wZ rg<|bq bJ ok3 gE (es:=[]) O (kk:=1) O O O O O O (λg1=>mvZ (bt s) O<|tkZ h (λhg h=>wZ rg<|cS bJ oA ok3 gE (es:=([]:List Int)) (xs:=s) (enc:=iZ) (aZ 5 O) lzZ (O) (kk:=1) O O (λ_=>O) (λ_=>O) hg O (λ_=>aV) (λg2=>asZ (.sl 1 rg 5 g2 0<|(([]:List Int)++s).length) O<|aE<|aC (v:=.sl 1 rg 5 g2 0 ((([]:List Int)++s).length)) O (aK<|br (k:=5) (xs:=List.map iZ (([]:List Int)++s)) O (v':=bt (([]:List Int)++s)) (bk O) (goZ hrg<|hQ _ h)))))
theorem km {s:List Int} {q0 k0 g0:Nat} (hdk:DK [(q0,k0)]) {Q:List Int->Prop} (h:eK s Q) (hQ:∀r1,Q r1->R (bt r1) (stX S [(q0,k0,.arr 1 (List.map iZ s),g0)])) :
  Ctr prog 143 [.sl 1 q0 k0 g0 0 s.length] (stX S [(q0,k0,.arr 1 (List.map iZ s),g0)]) R:=by
 refine aI func143 rfl ntmps143 results143 krZ (λrg hrg=>?_)
 have hdx:DX [(q0,k0,.arr 1 (List.map iZ s),g0)]:=hdk
 have hfr:=λX' e=>bY (S:=S) (rg:=rg) (X:=[(q0,k0,.arr 1 (List.map iZ s),g0)]) (X':=X') e hrg
 have hne0:=az hdx hrg 0 rfl
 refine aj<|asZ .nil O<|nZ<|qZ<|aj<|mvZ (.sl 1 q0 k0 g0 0 s.length) O<|Wl.isnilR bJ O O (λisnil hn=>?_)
 replace h:=h isnil hn
 refine nZ<|cZ h O (λhb h=>?_) (λhb h=>?_)
 ·exact aj<|asZ .nil O<|aE<|aC (v:=.nil) O<|aK<|aO (hfr _ O) (VW.nilL)<|hQ _ h
 exact kZ<|aj<|wZ rg<|bq bJ ok3 gE (es:=[]) O (kk:=1) O O O O O O (λg1=>mvZ (.sl 1 q0 k0 g0 0 s.length) O<|tkZ h (λhg h=>wZ rg<|cS bJ oA ok3 gE (es:=([]:List Int)) (xs:=s) (enc:=iZ) (aZ 5 O) lzZ (bQ (atX hne0 hdx 0 O) lzZ) (kk:=1) O O (λ_=>O) (λ_=>O) hg O (λ_=>aV) (λg2=>asZ (.sl 1 rg 5 g2 0<|(([]:List Int)++s).length) O<|aE<|aC (v:=.sl 1 rg 5 g2 0 ((([]:List Int)++s).length)) O (aK<|br (k:=5) (xs:=List.map iZ (([]:List Int)++s)) O (v':=bt (([]:List Int)++s)) (bk O) (goZ (hfr _ O)<|hQ _ h)))))
end Go.Proofs.YtnjgdkfhgmebjaaGreat
namespace Go.Proofs.YtnjgdkfhgmebjaaGreat
open Go.Gg Tryz
set_option maxRecDepth 100000
variable {S:St} {R:AV->St->Prop}
theorem qp {x:GRat} {Q:Bool->Prop} (h:nk x Q) (hQ:∀r1,Q r1->R (AV.bool r1) S) :
  Ctr prog 160 [am x] S R:=by
 refine aI func160 rfl ntmps160 results160 krZ (λrg hrg=>?_)
 exact aj<|wZ rg<|bC (v:=am x) O O (kk:=3) O dZ (λg1=>asZ (.bool false) O<|aU<|ac<|aw (aZ 1 O) aS dZ bz O O (v:=am x) O<|ac<|clZ O<|jr h λr h=>ac<|gK O<|asZ (.bool<|!r) O<|aE<|gv1 hrg<|hQ _ h)
theorem eD {s:List GRat} {Q:Int->Prop} (h:bT s Q) (hQ:∀r1,Q r1->R (iZ r1) S) :
  Ctr prog 239 [eL am s,.fn (.func 160) [] []] S R:=by
 refine aI func239 rfl ntmps239 results239 krZ (λrg hrg=>?_)
 refine aj<|asZ (iZ 0) O<|nZ<|qZ<|aj<|mvZ (eL am s) O<|ac<|aJ dM O<|mvZ (iZ 0) O<|nZ<|bZ<|lpZ h (λy=>ba [(0,eL am s),(1,.fn (.func 160) [] []),(7,iZ (s.length:Int)),(8,iZ y)]) (λy=>stL S rg []) (canon (aP<|fn)<|sn) (λx _ h=>aj<|ac<|bj O O<|nZ<|qZ<|cZ h O (λhb h=>?_) (λhb h=>?_))
 ·refine kZ<|qZ<|bZ<|aj<|mvZ (iZ x) O<|asZ (iZ x) O<|aU<|mvZ (.fn (.func 160) [] []) O<|mvZ (eL am s) O<|mvZ (iZ x) O<|tkZ h (λhg h=>ac<|aQ dM aS dZ (λ_=>O) O O hg<|ac<|cn aS dZ bz O O (v:=am (at' s x)) O<|ac<|clZ O<|qp h λr h=>nZ<|cZ h O (λhb1 h=>?_) (λhb1 h=>?_))
  ·exact aj<|mvZ (iZ x) O<|asZ (iZ x) O<|aE<|gv1 hrg<|hQ _ h
  exact kZ<|rZ<|tkZ h (λhg1 h=>ac<|aG O O hg1<|mvZ (iZ<|x+1) O<|nZ<|⟨(x+1),(canon (aP<|fn)<|sn),h⟩)
 exact xsZ<|aj<|asZ (iZ<|-1) O<|aE<|gv1 hrg<|hQ _ h
theorem dQ {s:List GRat} {Q:Bool->Prop} (h:bx s Q) (hQ:∀r1,Q r1->R (AV.bool r1) S) :
  Ctr prog 159 [eL am s,.fn (.func 160) [] []] S R:=by
 refine aI func159 rfl ntmps159 results159 krZ (λrg hrg=>?_)
 exact aj<|asZ (.bool false) O<|aU<|mvZ (eL am s) O<|mvZ (.fn (.func 160) [] []) O<|ac<|clZ O<|eD h λr h=>ac<|fB O O<|asZ (.bool<|decide<|0<=r) O<|aE<|gv1 hrg<|hQ _ h
theorem ip {m:GMission} {Q:Option Int->Prop} (h:fN m Q) (hQ:∀r1,Q r1->R (aY 82 r1) S) :
  Ctr prog 88 [aB m] S R:=by
 refine aI func88 rfl ntmps88 results88 krZ (λrg hrg=>?_)
 refine aj<|wZ rg<|bC (v:=aB m) O O (kk:=2) O dZ (λg1=>asZ .niface O<|nZ<|qZ<|aj<|ac<|aF ca O<|ac<|af (aZ 1 O) eZ fD O O (v:=eL an m.N) O<|ac<|aJ eI O<|asZ (iZ (m.N.length:Int)) O<|nZ<|bZ<|aj<|mvZ (iZ (m.N.length:Int)) O<|ac<|bK O O<|asZ (.bool<|(m.N.length:Int) == 0) O<|nZ<|cZ h O (λhb h=>?_) (λhb h=>?_))
 ·exact aj<|ac<|cm (by rw[gQ];trivial) (v:=iZ 11) O<|asZ (.iface 82<|iZ 11) O<|aE<|gv1 hrg<|hQ _ h
 refine aj<|mvZ (iZ (m.N.length:Int)) O<|ac<|c9 O O<|asZ (.bool<|decide<|6<(m.N.length:Int)) O<|nZ<|cZ h O (λhb1 h=>?_) (λhb1 h=>?_)
 ·exact aj<|ac<|cm (by rw[gQ];trivial) (v:=iZ 4) O<|asZ (.iface 82<|iZ 4) O<|aE<|gv1 hrg<|hQ _ h
 refine kZ<|aj<|ac<|aF ca O<|ac<|af (aZ 1 O) eZ fD O O (v:=eL an m.N) O<|tkZ h (λhg h=>ac<|aQ eI ct dZ (λ_=>O) O O hg<|ac<|faZ cd O O<|ac<|aL sz3 ag3 O O (v:=iZ ((at' m.N 0).A)) O (asZ (iZ<|(at' m.N 0).A) O<|nZ<|qZ<|aj<|ac<|aF ca O<|ac<|af (aZ 1 O) eZ fD O O (v:=eL an m.N) O<|ac<|aJ eI O<|mvZ (iZ 0) O<|nZ<|bZ<|lpZ h (λy=>ba [(1,.ptr rg 1 g1 0 0),(4,iZ ((at' m.N 0).A)),(27,eL an m.N),(28,iZ (m.N.length:Int)),(29,iZ y)]) (λy=>stL S rg [(1,.arr 2 [aB m],g1)]) (canon (aP<|fZ<|fn)<|sc O<|sn) (λx _ h=>aj<|ac<|bj O O<|nZ<|qZ<|cZ h O (λhb2 h=>?_) (λhb2 h=>?_))))
 ·refine kZ<|qZ<|bZ<|aj<|tkZ h (λhg1 h=>ac<|aQ eI ct dZ (λ_=>O) O O hg1<|ac<|cn ct dZ fE O O (v:=an (at' m.N x)) O<|wZ rg<|aW fG nT (kk:=3) O (λg2=>ac<|ay (aZ 6 O) ct dZ O (w:=an (at' m.N x)) O O O (v:=an (at' m.N x)) O aV<|nZ<|qZ<|aj<|ac<|aw (aZ 6 O) ct dZ fE O O (v:=an (at' m.N x)) O<|ac<|clZ O<|ez h λerr h=>asZ (aY 82 err) O<|aU<|mvZ (aY 82 err) O<|ac<|cK gk (E:=82) O O O<|nZ<|cZ h O (λhb3 h=>?_) (λhb3 h=>?_)))
  ·exact aj<|mvZ (aY 82 err) O<|asZ (aY 82 err) O<|aE<|gv1 hrg<|hQ _ h
  refine kZ<|aj<|ac<|aF cd O<|ac<|af (aZ 6 O) sz3 ag3 O O (v:=iZ ((at' m.N x).A)) O (mvZ (iZ<|(at' m.N 0).A) O<|ac<|c8 O O<|nZ<|cZ h O (λhb4 h=>?_) (λhb4 h=>?_))
  ·exact aj<|ac<|cm (by rw[gQ];trivial) (v:=iZ 11) O<|asZ (.iface 82<|iZ 11) O<|aE<|gv1 hrg<|hQ _ h
  exact kZ<|rZ<|tkZ h (λhg2 h=>ac<|aG O O hg2<|mvZ (iZ<|x+1) O<|nZ<|⟨(x+1),(canon (aP<|fZ<|fn)<|sc O<|sn),h⟩)
 refine xsZ<|qZ<|bZ<|aj<|mvZ (iZ<|(at' m.N 0).A) O<|ac<|aF ca O<|ac<|af (aZ 1 O) eZ fD O O (v:=eL an m.N) O<|ac<|aJ eI O<|tkZ h (λhg3 h=>ac<|m9 O O hg3<|ac<|c9 O O<|asZ (.bool<|decide<|24<((at' m.N 0).A*(m.N.length:Int))) O (nZ<|cZ h O (λhb5 h=>?_) (λhb5 h=>?_)))
 ·exact aj<|ac<|cm (by rw[gQ];trivial) (v:=iZ 4) O<|asZ (.iface 82<|iZ 4) O<|aE<|gv1 hrg<|hQ _ h
 refine aj<|ac<|aF cD O<|ac<|af (aZ 1 O) gn h_ O O (v:=eL (eL am) m.P) O<|ac<|aJ fC O<|mvZ (iZ<|(at' m.N 0).A) O<|ac<|c8 O O<|asZ (.bool<|(m.P.length:Int) != (at' m.N 0).A) O (nZ<|cZ h O (λhb6 h=>?_) (λhb6 h=>?_))
 ·exact aj<|ac<|cm (by rw[gQ];trivial) (v:=iZ 11) O<|asZ (.iface 82<|iZ 11) O<|aE<|gv1 hrg<|hQ _ h
 refine kZ<|qZ<|aj<|ac<|aF cD O<|ac<|af (aZ 1 O) gn h_ O O (v:=eL (eL am) m.P) O<|ac<|aJ fC O<|mvZ (iZ 0) O<|nZ<|bZ<|lpZ h (λy=>ba [(1,.ptr rg 1 g1 0 0),(60,eL (eL am) m.P),(61,iZ (m.P.length:Int)),(62,iZ y)]) (λy=>stL S rg [(1,.arr 2 [aB m],g1)]) (canon (aP<|fn)<|sc O<|sn) (λx1 _ h=>aj<|ac<|bj O O<|nZ<|qZ<|cZ h O (λhb7 h=>?_) (λhb7 h=>?_))
 ·refine kZ<|qZ<|bZ<|aj<|tkZ h (λhg4 h=>ac<|aQ fC gp dZ (λ_=>O) O O hg4<|ac<|aL gp oB O O (v:=eL am (at' m.P x1)) O<|asZ (eL am<|at' m.P x1) O<|nZ<|qZ<|aj<|mvZ (eL am<|at' m.P x1) O<|ac<|aJ dM O<|ac<|aF ca O<|ac<|af (aZ 1 O) eZ fD O O (v:=eL an m.N) O<|ac<|aJ eI O<|ac<|c8 O O<|nZ<|cZ h O (λhb8 h=>?_) (λhb8 h=>?_))
  ·exact aj<|ac<|cm (by rw[gQ];trivial) (v:=iZ 11) O<|asZ (.iface 82<|iZ 11) O<|aE<|gv1 hrg<|hQ _ h
  refine kZ<|aj<|mvZ (eL am<|at' m.P x1) O<|ac<|clZ O<|dQ h λr h=>nZ<|cZ h O (λhb9 h=>?_) (λhb9 h=>?_)
  ·exact aj<|ac<|cm (by rw[gQ];trivial) (v:=iZ 3) O<|asZ (.iface 82<|iZ 3) O<|aE<|gv1 hrg<|hQ _ h
  exact kZ<|rZ<|tkZ h (λhg5 h=>ac<|aG O O hg5<|mvZ (iZ<|x1+1) O<|nZ<|⟨(x1+1),(canon (aP<|fn)<|sc O<|sn),h⟩)
 exact xsZ<|aj<|asZ .niface O<|aE<|gv1 hrg<|hQ _ h
theorem i7 {m:GMission} {h1:List Int} {Q:Option Int->Prop} (h:fh m h1 Q) (hQ:∀r1,Q r1->R (aY 82 r1) S) :
  Ctr prog 161 [aB m,bt h1] S R:=by
 refine aI func161 rfl ntmps161 results161 krZ (λrg hrg=>?_)
 refine aj<|wZ rg<|bC (v:=aB m) O O (kk:=2) O dZ (λg1=>asZ .niface O<|nZ<|qZ<|aj<|ac<|aw (aZ 2 O) dA dZ gA O O (v:=aB m) O<|ac<|clZ O<|ip h λerr h=>asZ (aY 82 err) O<|aU<|mvZ (aY 82 err) O<|ac<|cK gk (E:=82) O O O<|nZ<|cZ h O (λhb h=>?_) (λhb h=>?_))
 ·exact aj<|mvZ (aY 82 err) O<|asZ (aY 82 err) O<|aE<|gv1 hrg<|hQ _ h
 refine kZ<|qZ<|aj<|mvZ (bt h1) O<|ac<|aJ bJ O<|ac<|aF cD O<|ac<|af (aZ 2 O) gn h_ O O (v:=eL (eL am) m.P) O<|ac<|aJ fC O<|ac<|c8 O O<|nZ<|cZ h O (λhb1 h=>?_) (λhb1 h=>?_)
 ·exact aj<|ac<|cm (by rw[gQ];trivial) (v:=iZ 11) O<|asZ (.iface 82<|iZ 11) O<|aE<|gv1 hrg<|hQ _ h
 refine kZ<|qZ<|aj<|mvZ (bt h1) O<|ac<|aJ bJ O<|mvZ (iZ 0) O<|nZ<|bZ<|lgZ h g1 (λy=>ba [(2,.ptr rg 2 y.2 0 0),(20,bt h1),(21,iZ (h1.length:Int)),(22,iZ y.1)]) (λy=>stL S rg [(2,.arr 2 [aB m],y.2)]) (canon (aP<|fn)<|sc O<|sn) (λy _ h=>?_)
 obtain⟨x,g2⟩:=y
 refine aj<|ac<|bj O O<|nZ<|qZ<|cZ h O (λhb2 h=>?_) (λhb2 h=>?_)
 ·refine kZ<|qZ<|bZ<|aj<|tkZ h (λhg h=>ac<|aQ bJ sz3 dZ (λ_=>O) O O hg<|ac<|aL sz3 ag3 O O (v:=iZ (at' h1 x)) O<|asZ (iZ<|at' h1 x) O<|nZ<|jgZ (γ:=Nat) h (λy=>ba [(2,.ptr rg 2 y.2 0 0),(20,bt h1),(21,iZ (h1.length:Int)),(22,iZ x),(34,.bool y.1)]) (λy=>stL S rg [(2,.arr 2 [aB m],y.2)]) (λy h=>?_) (λ_ h=>?_))
  ·obtain⟨x1,g3⟩:=y
   refine cZ h O (λhb3 h=>?_) (λhb3 h=>?_)
   ·exact aj<|ac<|cm (by rw[gQ];trivial) (v:=iZ 3) O<|asZ (.iface 82<|iZ 3) O<|aE<|gv1 hrg<|hQ _ h
   exact kZ<|rZ<|tkZ h (λhg1 h=>ac<|aG O O hg1<|mvZ (iZ<|x+1) O<|nZ<|⟨((x+1),g3),(canon (aP<|fn)<|sc O<|sn),h⟩)
  refine rZ<|mvZ (iZ<|at' h1 x) O<|ac<|bj O O<|mvZ (.bool<|decide<|(at' h1 x)<0) O<|gfZ h O O (λhb4 h=>?_) (λhb4 h=>?_)
  ·exact mvZ (iZ<|at' h1 x) O<|gTZ O O hb4<|ac<|aF ca O<|gTZ O O hb4<|ac<|af (aZ 2 O) eZ fD O O (v:=eL an m.N) O<|gTZ O O hb4<|ac<|aJ eI O<|gTZ O O hb4<|ac<|c9 O O<|ac<|bd O hb4 (v:=.bool (decide<|(m.N.length:Int)<(at' h1 x))) O (nZ<|⟨((decide<|(m.N.length:Int)<(at' h1 x)),g2),(canon (aP<|fZ<|fn)<|sc O<|sn),h⟩)
  exact gFZ O O hb4 O<|gFZ O O hb4 O<|gFZ O O hb4 O<|gFZ O O hb4 O<|ac<|be O hb4 (v:=.bool true) O<|nZ<|⟨(true,g2),(canon (aP<|fZ<|fn)<|sc O<|sn),h⟩
 exact xsZ<|aj<|asZ .niface O<|aE<|gv1 hrg<|hQ _ h
theorem qW {h1:List Int} {j:Int} {Q:Int->Prop} (h:kJ h1 j Q) (hQ:∀r1,Q r1->R (iZ r1) S) :
  Ctr prog 162 [bt h1,iZ j] S R:=by
 refine aI func162 rfl ntmps162 results162 krZ (λrg hrg=>?_)
 refine aj<|asZ (iZ 0) O<|aU<|asZ (iZ 0) O<|nZ<|qZ<|aj<|mvZ (bt h1) O<|ac<|aJ bJ O<|mvZ (iZ 0) O<|nZ<|bZ<|lpZ h (λy=>ba [(1,iZ j),(5,iZ y.1),(8,bt h1),(9,iZ (h1.length:Int)),(10,iZ y.2)]) (λy=>stL S rg []) (canon (aP<|fZ<|fn)<|sn) (λy _ h=>?_)
 obtain⟨set,x⟩:=y
 refine aj<|ac<|bj O O<|nZ<|qZ<|cZ h O (λhb h=>?_) (λhb h=>?_)
 ·refine kZ<|qZ<|bZ<|aj<|mvZ (iZ x) O<|tkZ h (λhg h=>ac<|aQ bJ sz3 dZ (λ_=>O) O O hg<|ac<|aL sz3 ag3 O O (v:=iZ (at' h1 x)) O<|asZ (iZ x) O<|asZ (iZ<|at' h1 x) O<|aU<|mvZ (iZ<|at' h1 x) O<|mvZ (iZ j) O<|ac<|ta O O<|nZ<|cZ h O (λhb1 h=>?_) (λhb1 h=>?_))
  ·exact rZ<|mvZ (iZ set) O<|mvZ (iZ x) O<|tkZ h (λhg1 h=>ac<|Dv O O hg1<|ac<|wD O O<|asZ (iZ<|bits .or .i64 set<|1*2^(Int.toNat x)) O<|nZ<|rZ<|tkZ h (λhg2 h=>ac<|aG O O hg2<|mvZ (iZ<|x+1) O<|nZ<|⟨((bits .or .i64 set<|1*2^(Int.toNat x)),(x+1)),(canon (aP<|fZ<|fn)<|sn),h⟩))
  exact kZ<|rZ<|tkZ h (λhg3 h=>ac<|aG O O hg3<|mvZ (iZ<|x+1) O<|nZ<|⟨(set,(x+1)),(canon (aP<|fZ<|fn)<|sn),h⟩)
 exact xsZ<|aj<|mvZ (iZ set) O<|asZ (iZ set) O<|aE<|gv1 hrg<|hQ _ h
theorem sk {m:GMission} {h1:List Int} {Q:Int->Option Int->Prop} (h:l7 m h1 Q) (hQ:∀r1 r2,Q r1 r2->R (.tuple [iZ r1,aY 82 r2]) S) :
  Ctr prog 89 [aB m,bt h1] S R:=by
 refine aI func89 rfl ntmps89 results89 krZ (λrg hrg=>?_)
 refine aj<|wZ rg<|bC (v:=aB m) O O (kk:=2) O dZ (λg1=>asZ (iZ 0) O<|asZ .niface O<|nZ<|qZ<|aj<|ac<|aw (aZ 2 O) dA dZ gA O O (v:=aB m) O<|mvZ (bt h1) O<|ac<|clZ O<|i7 h λerr h=>asZ (aY 82 err) O<|aU<|mvZ (aY 82 err) O<|ac<|cK gk (E:=82) O O O<|nZ<|cZ h O (λhb h=>?_) (λhb h=>?_))
 ·exact aj<|mvZ (aY 82 err) O<|asZ (iZ 0) O<|asZ (aY 82 err) O<|aE<|aC (v:=iZ 0) O<|aC (v:=aY 82 err) O<|aK<|aO hrg (VW.tupL<|vZ<|vZ<|vn)<|hQ _ _ h
 refine kZ<|qZ<|aj<|ac<|aF ca O<|ac<|af (aZ 2 O) eZ fD O O (v:=eL an m.N) O<|ac<|aJ eI O<|mvZ (iZ 0) O<|nZ<|bZ<|lpZ h (λy=>ba [(1,bt h1),(2,.ptr rg 2 g1 0 0),(18,eL an m.N),(19,iZ (m.N.length:Int)),(20,iZ y)]) (λy=>stL S rg [(2,.arr 2 [aB m],g1)]) (canon (aP<|fZ<|fn)<|sc O<|sn) (λx _ h=>aj<|ac<|bj O O<|nZ<|qZ<|cZ h O (λhb1 h=>?_) (λhb1 h=>?_))
 ·refine kZ<|qZ<|bZ<|aj<|mvZ (iZ x) O<|tkZ h (λhg h=>ac<|aQ eI ct dZ (λ_=>O) O O hg<|ac<|cn ct dZ fE O O (v:=an (at' m.N x)) O<|wZ rg<|aW fG nT (kk:=3) O (λg2=>asZ (iZ x) O<|ac<|ay (aZ 8 O) ct dZ O (w:=an (at' m.N x)) O O O (v:=an (at' m.N x)) O aV<|nZ<|qZ ?_))
  obtain⟨r,hc,h⟩:=h
  obtain⟨r1,r2,hc1,h⟩:=h
  refine Vc.drawn' bA rg (fH [(3,pc (iZ r)),(4,pc (.tuple [.bool r1,aY 82 r2]))]) krZ (dL (E:=([(rg,8)],[])) O O zSm (cfn) (aw (aZ 8 O) ct dZ fE O O (v:=an (at' m.N x)) O<|dP O O<|aA (v:=bt h1) O<|dP O O<|aA (v:=iZ x) O<|dC (vs:=[bt h1,iZ x]) O (vZ<|vZ<|vn) (λ_=>qW hc (λ_ hr=>⟨by rw[hr],rfl⟩)) O<|dC (vs:=[an (at' m.N x),iZ r]) O (vZ<|vZ<|vn) (λ_=>rC hc1 (λ_ _ hr=>⟨by rw[hr.1,hr.2],rfl⟩)) O<|dP O O<|aA (v:=.tuple [.bool r1,aY 82 r2]) O<|dP O O<|ar (v:=.bool r1) O O O<|dP O O<|ar (v:=aY 82 r2) O O O<|dP O O<|a9 (v:=.bool r1) O<|dP O O<|a9 (v:=aY 82 r2) O<|dN<|qZ<|aj<|mvZ (aY 82 r2) O<|ac<|cK gk (E:=82) O O O<|nZ<|cZ h O (λhb2 h=>?_) (λhb2 h=>?_)))
  ·exact aj<|mvZ (aY 82 r2) O<|asZ (iZ 0) O<|asZ (aY 82 r2) O<|aE<|aC (v:=iZ 0) O<|aC (v:=aY 82 r2) O<|aK<|aO hrg (VW.tupL<|vZ<|vZ<|vn)<|hQ _ _ h
  refine kZ<|aj<|mvZ (.bool r1) O<|nZ<|cZ h O (λhb3 h=>?_) (λhb3 h=>?_)
  ·exact aj<|mvZ (iZ x) O<|asZ (iZ x) O<|asZ .niface O<|aE<|aC (v:=iZ x) O<|aC (v:=.niface) O<|aK<|aO hrg (VW.tupL<|vZ<|vZ<|vn)<|hQ _ _ h
  exact kZ<|rZ<|tkZ h (λhg1 h=>ac<|aG O O hg1<|mvZ (iZ<|x+1) O<|nZ<|⟨(x+1),(canon (aP<|fZ<|fn)<|sc O<|sn),h⟩)
 exact xsZ<|aj<|ac<|aF ca O<|ac<|af (aZ 2 O) eZ fD O O (v:=eL an m.N) O<|ac<|aJ eI O<|asZ (iZ (m.N.length:Int)) O<|asZ .niface O<|aE<|aC (v:=iZ (m.N.length:Int)) O<|aC (v:=.niface) O<|aK<|aO hrg (VW.tupL<|vZ<|vZ<|vn)<|hQ _ _ h
theorem qX {m:GMission} {h1:List Int} {Q:GRat->Option Int->Prop} (h:kK m h1 Q) (hQ:∀r1 r2,Q r1 r2->R (.tuple [am r1,aY 82 r2]) S) :
  Ctr prog 90 [aB m,bt h1] S R:=by
 refine aI func90 rfl ntmps90 results90 krZ (λrg hrg=>?_)
 refine aj<|wZ rg<|bC (v:=aB m) O O (kk:=2) O dZ (λg1=>wZ rg<|aW bF dh (kk:=3) O (λg2=>asZ .niface O<|nZ<|qZ<|aj<|ac<|aw (aZ 2 O) dA dZ gA O O (v:=aB m) O<|mvZ (bt h1) O<|ac<|clZ O<|i7 h λerr h=>asZ (aY 82 err) O<|aU<|mvZ (aY 82 err) O<|ac<|cK gk (E:=82) O O O<|nZ<|cZ h O (λhb h=>?_) (λhb h=>?_)))
 ·exact aj<|ac<|bG nK bF li kX aS (ps:=[]) O O (v:=.agg [.bool false,.nil,.nil]) O<|mvZ (aY 82 err) O<|ac<|ay (aZ 4 O) aS dZ O (w:=.agg [.bool false,.nil,.nil]) O O O (v:=.agg [.bool false,.nil,.nil]) O aV<|asZ (aY 82 err) O<|aE<|bc (aZ 4 O) aS dZ bz O O (v:=.agg [.bool false,.nil,.nil]) O<|aC (v:=aY 82 err) O<|aK<|aO hrg (VW.tupL<|vl' (VW.aggL<|vZ<|vl' (VW.nilL)<|vl' (VW.nilL)<|vn)<|vZ<|vn)<|hQ _ _ h
 refine kZ<|aj<|ac<|clZ O<|gt h λr h=>wZ rg<|aW bF dh (kk:=3) O (λg3=>ac<|ay (aZ 7 O) aS dZ O (w:=am r) O O O (v:=am r) O aV<|aU<|ac<|aw (aZ 7 O) aS dZ bz O O (v:=am r) O<|wZ rg<|aW bF dh (kk:=3) O (λg4=>ac<|ay (aZ 8 O) aS dZ O (w:=am r) O O O (v:=am r) O aV<|nZ<|qZ<|aj<|mvZ (bt h1) O<|ac<|aJ bJ O<|mvZ (iZ 0) O<|nZ<|bZ<|lgZ h (g1,g2,g3,g4) (λy=>ba [(2,.ptr rg 2 y.2.1 0 0),(4,.ptr rg 4 y.2.2.1 0 0),(7,.ptr rg 7 y.2.2.2.1 0 0),(8,.ptr rg 8 y.2.2.2.2 0 0),(22,bt h1),(23,iZ (h1.length:Int)),(24,iZ y.1.1)]) (λy=>stL S rg [(2,.arr 2 [aB m],y.2.1),(4,.arr 3 [.agg [.bool false,.nil,.nil]],y.2.2.1),(7,.arr 3 [am r],y.2.2.2.1),(8,.arr 3 [am y.1.2],y.2.2.2.2)]) (canon (aP<|fZ<|fZ<|fZ<|fn)<|cC O O O O<|sn) (λy _ h=>?_)))
 obtain⟨⟨x,x1⟩,⟨g5,g6,g7,g8⟩⟩:=y
 refine aj<|ac<|bj O O<|nZ<|qZ<|cZ h O (λhb1 h=>?_) (λhb1 h=>?_)
 ·refine kZ<|qZ<|bZ<|aj<|mvZ (iZ x) O<|tkZ h (λhg h=>ac<|aQ bJ sz3 dZ (λ_=>O) O O hg<|ac<|aL sz3 ag3 O O (v:=iZ (at' h1 x)) O<|asZ (iZ x) O<|asZ (iZ<|at' h1 x) O<|nZ<|qZ<|tkZ h (λhg1 h=>tkZ h (λhg2 h=>tkZ h (λhg3 h=>Vc.drawn' bA rg (λ_=>fS) krZ<|dP O O<|aF cD O<|dL (E:=([(rg,2)],[])) O O zSm (cfn) (af (aZ 2 O) gn h_ O O (v:=eL (eL am) m.P) O<|dP O O<|aA (v:=iZ x) O<|dP O O<|aQ fC gp dZ (λ_=>O) O O hg1<|dP O O<|aL gp oB O O (v:=eL am (at' m.P x)) O<|dP O O<|aA (v:=iZ (at' h1 x)) O<|dP O O<|aG O O hg2<|dP O O<|aF ca O<|dL (E:=([(rg,2)],[])) O O zSm (cfa zAp<|cfn) (af (aZ 2 O) eZ fD O O (v:=eL an m.N) O<|dP O O<|aJ eI O<|dP O O<|FQ O O<|dP O O<|fO dM aS dZ (λ_=>O) O (l:=0) (h:=(min ((at' h1 x)+1) (m.N.length:Int))) O O hg3 (dP O O<|aJ dM O<|dP O O<|aA (v:=iZ 0) O<|dN<|bZ ?_)))))))
  refine lgZ h (g5,g6,g7,g8) (λy=>ba [(2,.ptr rg 2 y.2.1 0 0),(4,.ptr rg 4 y.2.2.1 0 0),(7,.ptr rg 7 y.2.2.2.1 0 0),(8,.ptr rg 8 y.2.2.2.2 0 0),(10,iZ (at' h1 x)),(22,bt h1),(23,iZ (h1.length:Int)),(24,iZ x),(40,eL am (bf (at' m.P x) 0<|min ((at' h1 x)+1) (m.N.length:Int))),(41,iZ ((bf (at' m.P x) 0<|min ((at' h1 x)+1) (m.N.length:Int)).length:Int)),(42,iZ y.1.1)]) (λy=>stL S rg [(2,.arr 2 [aB m],y.2.1),(4,.arr 3 [.agg [.bool false,.nil,.nil]],y.2.2.1),(7,.arr 3 [am r],y.2.2.2.1),(8,.arr 3 [am y.1.2],y.2.2.2.2)]) (canon (aP<|aP<|fZ<|fZ<|fZ<|fn)<|cC O O O O<|sn) (λy _ h=>?_)
  obtain⟨⟨x2,x3⟩,⟨g9,g10,g11,g12⟩⟩:=y
  refine aj<|ac<|bj O O<|nZ<|qZ<|cZ h O (λhb2 h=>?_) (λhb2 h=>?_)
  ·refine kZ<|qZ<|bZ<|aj<|mvZ (iZ x2) O<|tkZ h (λhg4 h=>ac<|aQ dM aS dZ (λ_=>O) O O hg4<|ac<|cn aS dZ bz O O (v:=am (at' (bf (at' m.P x) 0<|min ((at' h1 x)+1) (m.N.length:Int)) x2)) O (wZ rg<|aW bF dh (kk:=3) O (λg13=>asZ (iZ x2) O<|ac<|ay (aZ 12 O) aS dZ O (w:=am (at' (bf (at' m.P x) 0<|min ((at' h1 x)+1) (m.N.length:Int)) x2)) O O O (v:=am (at' (bf (at' m.P x) 0<|min ((at' h1 x)+1) (m.N.length:Int)) x2)) O aV (nZ<|jgZ (γ:=Nat×Nat×Nat×Nat×Nat) h (λy=>ba [(2,.ptr rg 2 y.2.1 0 0),(4,.ptr rg 4 y.2.2.1 0 0),(7,.ptr rg 7 y.2.2.2.1 0 0),(8,.ptr rg 8 y.2.2.2.2.1 0 0),(10,iZ (at' h1 x)),(12,.ptr rg 12 y.2.2.2.2.2 0 0),(22,bt h1),(23,iZ (h1.length:Int)),(24,iZ x),(40,eL am (bf (at' m.P x) 0<|min ((at' h1 x)+1) (m.N.length:Int))),(41,iZ ((bf (at' m.P x) 0<|min ((at' h1 x)+1) (m.N.length:Int)).length:Int)),(42,iZ x2)]) (λy=>stL S rg [(2,.arr 2 [aB m],y.2.1),(4,.arr 3 [.agg [.bool false,.nil,.nil]],y.2.2.1),(7,.arr 3 [am r],y.2.2.2.1),(8,.arr 3 [am x3],y.2.2.2.2.1),(12,.arr 3 [am y.1],y.2.2.2.2.2)]) (λy h=>?_) (λ_ h=>?_)))))
   ·obtain⟨x4,⟨g14,g15,g16,g17,g18⟩⟩:=y
    exact rZ<|ac<|aw (aZ 8 O) aS dZ bz O O (v:=am x3) O<|ac<|aw (aZ 12 O) aS dZ bz O O (v:=am x4) O<|ac<|clZ O<|im h λr1 h=>ac<|ay (aZ 8 O) aS dZ O (w:=am r1) O O O (v:=am r1) O aV<|nZ<|rZ<|tkZ h (λhg5 h=>ac<|aG O O hg5<|mvZ (iZ<|x2+1) O<|nZ<|⟨(((x2+1),r1),(g14,g15,g16,g17)),(canon (aP<|aP<|fZ<|fZ<|fZ<|fn)<|cC O O O O<|sn),h⟩)
   refine aj<|mvZ (iZ x2) O<|mvZ (iZ<|at' h1 x) O<|ac<|bj O O<|nZ<|cZ h O (λhb3 h=>?_) (λhb3 h=>?_)
   ·exact rZ<|ac<|aw (aZ 7 O) aS dZ bz O O (v:=am r) O<|ac<|aw (aZ 12 O) aS dZ bz O O (v:=am (at' (bf (at' m.P x) 0<|min ((at' h1 x)+1) (m.N.length:Int)) x2)) O (ac<|clZ O<|il h λr2 h=>ac<|ay (aZ 12 O) aS dZ O (w:=am r2) O O O (v:=am r2) O aV<|nZ<|⟨(r2,(g9,g10,g11,g12,g13)),(canon (aP<|aP<|aP<|fn)<|cC O O O O<|sc O<|sn),h⟩)
   exact kZ<|⟨((at' (bf (at' m.P x) 0<|min ((at' h1 x)+1) (m.N.length:Int)) x2),(g9,g10,g11,g12,g13)),(canon (aP<|aP<|aP<|fn)<|cC O O O O<|sc O<|sn),h⟩
  exact xsZ<|rZ<|tkZ h (λhg6 h=>ac<|aG O O hg6<|mvZ (iZ<|x+1) O<|nZ<|⟨(((x+1),x3),(g9,g10,g11,g12)),(canon (aP<|fZ<|fZ<|fZ<|fn)<|cC O O O O<|sn),h⟩)
 exact xsZ<|aj<|ac<|aw (aZ 8 O) aS dZ bz O O (v:=am x1) O<|ac<|ay (aZ 4 O) aS dZ O (w:=am x1) O O O (v:=am x1) O aV<|asZ .niface O<|aE<|bc (aZ 4 O) aS dZ bz O O (v:=am x1) O<|aC (v:=.niface) O<|aK<|aO hrg (VW.tupL<|vZ<|vZ<|vn)<|hQ _ _ h
theorem ga {kind:Int} {k2:Int} {args:List Int} {A:Int} {F:Int} {V:List GNode} {q0 k0 g0 q1 k1 g1:Nat} (hdk:DK [(q0,k0),(q1,k1)]) {Q:List GNode->Int->Prop} (h:ea kind k2 args A F V Q) (hQ:∀r1 r2,∀h1,Q r1 r2->R (iZ r2) (stX S [(q0,k0,.arr 3 [.agg [.int .i64 A,.sl 3 q1 k1 h1 0 r1.length,.int .i64 F]],g0),(q1,k1,.arr 3 (List.map bb r1),h1)])) :
  Ctr prog 171 [iZ kind,iZ k2,bt args,.ptr q0 k0 g0 0 0] (stX S [(q0,k0,.arr 3 [.agg [.int .i64 A,.sl 3 q1 k1 g1 0 V.length,.int .i64 F]],g0),(q1,k1,.arr 3 (List.map bb V),g1)]) R:=by
 refine aI func171 rfl ntmps171 results171 krZ (λrg hrg=>?_)
 have hdx:DX [(q0,k0,.arr 3 [.agg [.int .i64 A,.sl 3 q1 k1 g1 0 V.length,.int .i64 F]],g0),(q1,k1,.arr 3 (List.map bb V),g1)]:=hdk
 have hfr:=λX' e=>bY (S:=S) (rg:=rg) (X:=[(q0,k0,.arr 3 [.agg [.int .i64 A,.sl 3 q1 k1 g1 0 V.length,.int .i64 F]],g0),(q1,k1,.arr 3 (List.map bb V),g1)]) (X':=X') e hrg
 have hne0:=az hdx hrg 0 rfl
 have hne1:=az hdx hrg 1 rfl
 refine aj<|asZ (iZ 0) O<|aU<|ac<|aF b6 O<|ac<|af (atX hne0 hdx 0 O) eJ fv O O (v:=.sl 3 q1 k1 g1 0 V.length) O<|mvZ (iZ kind) O<|mvZ (iZ k2) O<|mvZ (bt args) O<|ac<|bG sQ fx vY um cU (ps:=[(0,iZ kind),(1,iZ k2),(2,bt args)]) O O (v:=.agg [iZ kind,iZ k2,bt args]) O (wZ rg<|bq d5 k_ fx (es:=[.agg [iZ kind,iZ k2,bt args]]) O (kk:=3) O O O O O O (λg2=>tkZ h (λhg h=>wZ rg<|cS d5 AC k_ fx (es:=V) (xs:=[(⟨kind,k2,args⟩:GNode)]) (enc:=bb) (atX hne1 hdx 1 O) lzZ (bQ (aZ 14 O) lzZ) (kk:=3) O O (λ_=>O) (λ_=>O) hg O (λ_=>(bU hne1 hdx 1 O O)) (λg3=>ac<|aF b6 O<|ac<|ay (atX hne0 hdx 0 O) eJ dZ O (w:=.sl 3 q1 k1 g3 0 ((V++[(⟨kind,k2,args⟩:GNode)]).length)) O O O (v:=.agg [iZ A,.sl 3 q1 k1 g3 0 ((V++[(⟨kind,k2,args⟩:GNode)]).length),iZ F]) O (bU hne0 hdx 0 O O) (aU<|ac<|aF cd O<|ac<|af (atX hne0 hdx 0 O) sz3 ag3 O O (v:=iZ A) O<|ac<|aF b6 O<|ac<|af (atX hne0 hdx 0 O) eJ fv O O (v:=.sl 3 q1 k1 g3 0 ((V++[(⟨kind,k2,args⟩:GNode)]).length)) O (ac<|gW d5 O<|tkZ h (λhg1 h=>ac<|aG O O hg1<|tkZ h (λhg2 h=>ac<|bW O O hg2<|asZ (iZ<|(A+((V++[(⟨kind,k2,args⟩:GNode)]).length:Int))-1) O (nZ<|uZ ?_)))))))))
 exact gv1 (hfr _ O)<|hQ _ _ _ h
theorem js {arg:Int} {u:GFormula} {u1:Int} {u2:Int} {u3:List (List Int)} {q0 k0 g0 q1 k1 g1 q2 k2 g2 q3 k3 g3 q4 k4 g4:Nat} (hdk:DK [(q0,k0),(q1,k1),(q2,k2),(q3,k3),(q4,k4)]) {Q:Int->Prop} (h:d_ arg u u1 u2 u3 Q) (hQ:∀r1,Q r1->R (iZ r1) (stX S [(q0,k0,.arr 3 [an u],g0),(q1,k1,.arr 1 [.sl 1 q4 k4 g4 0 u3.length],g1),(q2,k2,.arr 1 [.int .i64 u1],g2),(q3,k3,.arr 1 [.int .i64 u2],g3),(q4,k4,.arr 1 (List.map bt u3),g4)])) :
  Ctr prog 172 [iZ arg,.ptr q0 k0 g0 0 0,.ptr q1 k1 g1 0 0,.ptr q2 k2 g2 0 0,.ptr q3 k3 g3 0 0] (stX S [(q0,k0,.arr 3 [an u],g0),(q1,k1,.arr 1 [.sl 1 q4 k4 g4 0 u3.length],g1),(q2,k2,.arr 1 [.int .i64 u1],g2),(q3,k3,.arr 1 [.int .i64 u2],g3),(q4,k4,.arr 1 (List.map bt u3),g4)]) R:=by
 refine aI func172 rfl ntmps172 results172 krZ (λrg hrg=>?_)
 have hdx:DX [(q0,k0,.arr 3 [an u],g0),(q1,k1,.arr 1 [.sl 1 q4 k4 g4 0 u3.length],g1),(q2,k2,.arr 1 [.int .i64 u1],g2),(q3,k3,.arr 1 [.int .i64 u2],g3),(q4,k4,.arr 1 (List.map bt u3),g4)]:=hdk
 have hfr:=λX' e=>bY (S:=S) (rg:=rg) (X:=[(q0,k0,.arr 3 [an u],g0),(q1,k1,.arr 1 [.sl 1 q4 k4 g4 0 u3.length],g1),(q2,k2,.arr 1 [.int .i64 u1],g2),(q3,k3,.arr 1 [.int .i64 u2],g3),(q4,k4,.arr 1 (List.map bt u3),g4)]) (X':=X') e hrg
 have hne0:=az hdx hrg 0 rfl
 have hne1:=az hdx hrg 1 rfl
 have hne2:=az hdx hrg 2 rfl
 have hne3:=az hdx hrg 3 rfl
 have hne4:=az hdx hrg 4 rfl
 refine aj<|asZ (iZ 0) O<|nZ<|qZ<|aj<|mvZ (iZ arg) O<|ac<|aF cd O<|ac<|af (atX hne0 hdx 0 O) sz3 ag3 O O (v:=iZ u.A) O<|ac<|bj O O<|nZ<|cZ h O (λhb h=>?_) (λhb h=>?_)
 ·exact qZ<|tkZ h (λhi h=>tkZ h (λhg h=>Vc.drawn' bA rg (λ_=>fS) krZ<|dL (E:=([(q1,k1)],[])) O O zSm (cfn) (af (atX hne1 hdx 1 O) un xq O O (v:=.sl 1 q4 k4 g4 0 u3.length) O<|dP O O<|aA (v:=iZ arg) O<|dP O O<|bm ui fo dZ O O hi<|dL (E:=([(q4,k4)],[])) O O zSm (cfo krZ<|cfn) (cc (atX hne4 hdx 4 O) fo jc O (bH hi lzZ) O (v:=bt (at' u3 arg)) O<|dL (E:=([(q2,k2)],[])) O O zSm (cfa zAp<|cfa zAp<|cfn) (af (atX hne2 hdx 2 O) sz3 ag3 O O (v:=iZ u1) O<|dP O O<|aQ bJ sz3 dZ (λ_=>O) O O hg<|dP O O<|aL sz3 ag3 O O (v:=iZ (at' (at' u3 arg) u1)) O (dP O O<|a9 (v:=iZ (at' (at' u3 arg) u1)) O (dN<|uZ<|gv1 (hfr _ O)<|hQ _ h)))))))
 exact kZ<|aj<|ac<|af (atX hne3 hdx 3 O) sz3 ag3 O O (v:=iZ u2) O<|mvZ (iZ arg) O<|tkZ h (λhg1 h=>ac<|aG O O hg1<|ac<|aF cd O<|ac<|af (atX hne0 hdx 0 O) sz3 ag3 O O (v:=iZ u.A) O<|tkZ h (λhg2 h=>ac<|bW O O hg2<|asZ (iZ<|(u2+arg)-u.A) O<|aE<|gv1 (hfr _ O)<|hQ _ h))
set_option maxHeartbeats 4000000 in
theorem qY {m:GMission} {Q:GFormula->List GRat->Option Int->Prop} (h:kL m Q) (hQ:∀r1 r2 r3,Q r1 r2 r3->R (.tuple [an r1,eL am r2,aY 82 r3]) S) :
  Ctr prog 96 [aB m] S R:=by
 refine aI func96 rfl ntmps96 results96 krZ (λrg hrg=>?_)
 refine aj<|wZ rg<|bC (v:=aB m) O O (kk:=2) O dZ (λg1=>wZ rg<|aW fG nT (kk:=3) O (λg2=>asZ .nil O<|asZ .niface O<|nZ<|qZ<|aj<|ac<|aw (aZ 1 O) dA dZ gA O O (v:=aB m) O<|ac<|clZ O<|ip h λerr h=>asZ (aY 82 err) O<|aU<|mvZ (aY 82 err) O<|ac<|cK gk (E:=82) O O O<|nZ<|cZ h O (λhb h=>?_) (λhb h=>?_)))
 ·exact aj<|ac<|bG ug fG tk sR ct (ps:=[]) O O (v:=.agg [iZ 0,.nil,iZ 0]) O<|mvZ (aY 82 err) O<|ac<|ay (aZ 2 O) ct dZ O (w:=.agg [iZ 0,.nil,iZ 0]) O O O (v:=.agg [iZ 0,.nil,iZ 0]) O aV<|asZ .nil O<|asZ (aY 82 err) O<|aE<|bc (aZ 2 O) ct dZ fE O O (v:=.agg [iZ 0,.nil,iZ 0]) O<|aC (v:=.nil) O<|aC (v:=aY 82 err) O<|aK<|aO hrg (VW.tupL<|vl' (VW.aggL<|vZ<|vl' (VW.nilL)<|vZ<|vn)<|vl' (VW.nilL)<|vZ<|vn)<|hQ _ _ _ h
 refine kZ<|qZ<|Vc.drawn' bA rg (λ_=>fS) krZ<|dP O O<|aF ca O<|dL (E:=([(rg,1)],[])) O O zSm (cfn) (af (aZ 1 O) eZ fD O O (v:=eL an m.N) O<|dP O O<|aJ eI O<|dP O O<|aF cD O<|dL (E:=([(rg,1)],[])) O O zSm (cfa zAp<|cfn) (af (aZ 1 O) gn h_ O O (v:=eL (eL am) m.P) O<|dP O O<|aJ fC O<|dP O O<|a9 (v:=iZ (m.N.length:Int)) O<|dP O O<|a9 (v:=iZ (m.P.length:Int)) O<|dN<|aj<|mvZ (iZ (m.P.length:Int)) O<|mvZ (iZ (m.N.length:Int)) O<|tkZ h (λhg h=>ac<|m9 O O hg<|ac<|bG ug fG tk sR ct (ps:=[(0,iZ ((m.P.length:Int)*(m.N.length:Int)))]) O O (v:=.agg [iZ ((m.P.length:Int)*(m.N.length:Int)),.nil,iZ 0]) O (wZ rg<|aW fG nT (kk:=3) O (λg3=>ac<|ay (aZ 8 O) ct dZ O (w:=.agg [iZ ((m.P.length:Int)*(m.N.length:Int)),.nil,iZ 0]) O O O (v:=.agg [iZ ((m.P.length:Int)*(m.N.length:Int)),.nil,iZ 0]) O aV (aU<|wZ rg<|qq (vs:=[]) (us:=[.ptr rg 8 g3 0 0]) O O<|asZ (.fn (.func 171) [] [.ptr rg 8 g3 0 0]) O<|aU<|mvZ (iZ (m.P.length:Int)) O<|tkZ h (λhg1 h=>wZ rg<|t6 ui Ie Ix Hu (kk:=1) O O O hg1 (λg4=>Wl.fam 1 iZ (K:=47) O dZ (λrf gs hrf nrf=>wZ rg<|aW Ge HT (kk:=1) O (λg5=>?_))))))))))
 refine ac<|ay (aZ 10 O) un dZ O (w:=.sl 1 rg 47 g4 0 (Int.toNat (m.P.length:Int))) O O O (v:=.sl 1 rg 47 g4 0 (Int.toNat (m.P.length:Int))) O aV (nZ<|qZ<|aj<|ac<|af (aZ 10 O) un xq O O (v:=.sl 1 rg 47 g4 0 (Int.toNat (m.P.length:Int))) O (ac<|gW ui O<|mvZ (iZ 0) O<|nZ<|bZ<|Vc.matB 8 1 9001 3 (b:=λg6=>.agg [iZ ((m.P.length:Int)*(m.N.length:Int)),.sl 3 rg 9001 g6 0 0,iZ 0]) O O dZ dZ O (λg6=>?_)))
 refine lgZ h (g6,gs) (λy=>ba [(1,.ptr rg 1 g1 0 0),(2,.ptr rg 2 g2 0 0),(6,iZ (m.N.length:Int)),(8,.ptr rg 8 g3 0 0),(9,.fn (.func 171) [] [.ptr rg 8 g3 0 0]),(10,.ptr rg 10 g5 0 0),(49,iZ ((Int.toNat (m.P.length:Int)):Int)),(50,iZ y.1.1)]) (λy=>stL (dx S rf 1 iZ y.2.2 y.1.2.1) rg [(1,.arr 2 [aB m],g1),(2,.arr 3 [.agg [iZ 0,.nil,iZ 0]],g2),(8,.arr 3 [.agg [iZ ((m.P.length:Int)*(m.N.length:Int)),.sl 3 rg 9001 y.2.1 0 y.1.2.2.length,iZ 0]],g3),(10,.arr 1 [.sl 1 rg 47 g4 0 y.1.2.1.length],g5),(47,.arr 1 (fr rf 1 y.2.2 y.1.2.1),g4),(9001,.arr 3 (List.map bb y.1.2.2),y.2.1)]) (EWk.trans (EWk.ow (k:=8) (o':=.arr 3 [.agg [iZ ((m.P.length:Int)*(m.N.length:Int)),.sl 3 rg 9001 g6 0 ([].length),iZ 0]]) O (OW.one<|VWL.vwc<|vZ<|vl' (VW.slen lzZ)<|vZ<|vn)) (EWk.trans (EWk.ow (k:=10) (o':=.arr 1 [.sl 1 rg 47 g4 0 ((bS (m.P.length:Int) []).length)]) O (OW.one<|VWL.vwc<|vl' (VW.slen lzZ)<|vn)) (canon (aP<|aP<|fn)<|cC O O O O<|sc O<|sc O<|sn))) (λy _ h=>?_)
 obtain⟨⟨x,x1,x2⟩,⟨g7,g8⟩⟩:=y
 refine aj<|ac<|bj O O<|nZ<|qZ<|cZ h O (λhb1 h=>?_) (λhb1 h=>?_)
 ·refine kZ<|qZ<|bZ<|aj<|mvZ (iZ x) O<|asZ (iZ x) O<|aU<|asZ .nil O<|aU<|mvZ (iZ (m.N.length:Int)) O<|mvZ (iZ 0) O<|nZ<|bZ<|Vc.mat 12 64 1 O dZ (λg9=>lgZ h (g9,g7,g8) (λy=>ba [(1,.ptr rg 1 g1 0 0),(2,.ptr rg 2 g2 0 0),(6,iZ (m.N.length:Int)),(8,.ptr rg 8 g3 0 0),(9,.fn (.func 171) [] [.ptr rg 8 g3 0 0]),(10,.ptr rg 10 g5 0 0),(11,iZ x),(12,.sl 1 rg 64 y.2.1 0 y.1.2.2.1.length),(49,iZ ((Int.toNat (m.P.length:Int)):Int)),(50,iZ x),(53,iZ (m.N.length:Int)),(54,iZ y.1.1)]) (λy=>stL (dx S rf 1 iZ y.2.2.2 y.1.2.1) rg [(1,.arr 2 [aB m],g1),(2,.arr 3 [.agg [iZ 0,.nil,iZ 0]],g2),(8,.arr 3 [.agg [iZ ((m.P.length:Int)*(m.N.length:Int)),.sl 3 rg 9001 y.2.2.1 0 y.1.2.2.2.length,iZ 0]],g3),(10,.arr 1 [.sl 1 rg 47 g4 0 y.1.2.1.length],g5),(47,.arr 1 (fr rf 1 y.2.2.2 y.1.2.1),g4),(64,.arr 1 (List.map iZ y.1.2.2.1),y.2.1),(9001,.arr 3 (List.map bb y.1.2.2.2),y.2.2.1)]) (canon (aP<|fZ<|fZ<|fZ<|fc (VW.slen lzZ)<|aP<|fn)<|cC O O O O<|sc O<|sc O<|sc O<|sn) (λy _ h=>?_))
  obtain⟨⟨x3,x4,so,x5⟩,⟨g10,g11,g12⟩⟩:=y
  refine aj<|ac<|bj O O<|nZ<|qZ<|cZ h O (λhb2 h=>?_) (λhb2 h=>?_)
  ·refine kZ<|qZ<|bZ<|aj<|mvZ (iZ x3) O<|asZ (iZ x3) O<|aU<|mvZ (.sl 1 rg 64 g10 0 so.length) O<|mvZ (iZ x) O<|mvZ (iZ (m.N.length:Int)) O<|tkZ h (λhg2 h=>ac<|m9 O O hg2<|mvZ (iZ x3) O<|tkZ h (λhg3 h=>ac<|aG O O hg3<|wZ rg<|bq bJ ok3 gE (es:=[iZ ((x*(m.N.length:Int))+x3)]) O (kk:=1) O O O O O O (λg13=>tkZ h (λhg4 h=>wZ rg<|cS bJ oA ok3 gE (es:=so) (xs:=[((x*(m.N.length:Int))+x3)]) (enc:=iZ) (aZ 64 O) lzZ (bQ (aZ 63 O) lzZ) (kk:=1) O O (λ_=>O) (λ_=>O) hg4 O (λ_=>aV) (λg14=>asZ (.sl 1 rg 64 g14 0<|(so++[((x*(m.N.length:Int))+x3)]).length) O (aU<|mvZ (iZ x3) O<|ac<|bK O O<|nZ<|cZ h O (λhb3 h=>?_) (λhb3 h=>?_)))))))
   ·refine tkZ h (λhi h=>tkZ h (λhi1 h=>tkZ h (λhg5 h=>tkZ h (λhi2 h=>Vc.drawn' bA rg (λ_=>fS) krZ<|dL (E:=([(rg,10)],[])) O O zSm (cfn) (af (aZ 10 O) un xq O O (v:=.sl 1 rg 47 g4 0 x4.length) O<|dP O O<|aA (v:=iZ x) O<|dL (E:=([(rg,10)],[])) O O zSm (cfa zAp<|cfn) (af (aZ 10 O) un xq O O (v:=.sl 1 rg 47 g4 0 x4.length) O<|dP O O<|aA (v:=iZ x) O<|dP O O<|bm ui fo dZ O O hi<|dL (E:=([(rg,47)],[])) O O zSm (cfo krZ<|cfa zAp<|cfn) (xQ (aZ 47 O) fo jc O (bH hi lzZ)<|dP O O<|aA (v:=.sl 1 rg 64 g14 0 ((so++[((x*(m.N.length:Int))+x3)]).length)) O (dP O O<|bm bJ sz3 dZ O O hi1<|dL (E:=([(rg,64)],[])) O O zSm (cfa zAp<|cfa zAp<|cfa zAp<|cfn) (cc (aZ 64 O) sz3 ag3 O (bH hi1 lzZ) O (v:=iZ (at' (so++[((x*(m.N.length:Int))+x3)]) 0)) O (dL (E:=([],[(rg,76)])) O O zSm (cfo krZ<|cfa zAp<|cfa zAp<|cfa zAp<|cfn) (bq bJ ok3 gE (es:=[iZ (at' (so++[((x*(m.N.length:Int))+x3)]) 0)]) O (kk:=1) O O O O O O (λg15=>?_))))))))))))
    exact dL (E:=([(rg,76)],[(rf,Int.toNat x)])) O O zSm (cfo krZ<|cfo krZ<|cfo krZ<|cfo krZ<|cfa (by simp[kW,hrf])<|cfn) (DB hrf bJ oA ok3 gE (bH hi lzZ) O lzZ (xs:=[(at' (so++[((x*(m.N.length:Int))+x3)]) 0)]) (enc:=iZ) (bQ (aZ 76 O) lzZ) (kk:=1) O O (λ_=>O) (λ_=>O) hg5 O (λg16=>dP O O<|bm ui fo dZ O O hi2<|dL (E:=([],[(rg,47)])) O O zSm (cfo krZ<|cfo krZ<|cfo krZ<|cfo krZ<|cfo krZ<|cfo krZ<|cfn) (uX (aZ 47 O) fo O O (bH hi2 lzZ) (l:=(at' x4 x++[(at' (so++[((x*(m.N.length:Int))+x3)]) 0)])) O aV (dN<|rZ<|tkZ h (λhg6 h=>ac<|aG O O hg6<|mvZ (iZ<|x3+1) O<|nZ<|⟨(((x3+1),(bu x4 x<|at' x4 x++[(at' (so++[((x*(m.N.length:Int))+x3)]) 0)]),(so++[((x*(m.N.length:Int))+x3)]),x5),(g14,g11,(kh g12 (Int.toNat x) g16))),(EWk.trans (EWk.ow (k:=10) (o':=.arr 1 [.sl 1 rg 47 g4 0 ((bu x4 x<|at' x4 x++[(at' (so++[((x*(m.N.length:Int))+x3)]) 0)]).length)]) O (OW.one<|VWL.vwc<|vl' (VW.slen lzZ)<|vn)) (canon (aP<|aP<|aP<|fn)<|cC O O O O<|sc O<|sc O<|sc O<|sn)),h⟩)))))
   refine tkZ h (λhi3 h=>?_)
   obtain⟨r,hc,h⟩:=h
   obtain⟨u,r1,hc1,h⟩:=h
   refine tkZ h (λhg7 h=>tkZ h (λhi4 h=>Vc.drawn' bA rg (fH [(8,wc (λ_=>bt r) [(rg,64)] [] (λ_=>[])),(9,wc (λ_=>iZ r1) [] [(rg,8),(rg,9001)] (λgm1=>[(rg,8,.arr 3 [.agg [iZ ((m.P.length:Int)*(m.N.length:Int)),.sl 3 rg 9001 (gm1 0) 0 u.length,iZ 0]],g3),(rg,9001,.arr 3 (List.map bb u),(gm1 0))]))]) krZ (dL (E:=([(rg,10)],[])) O O zSm (cfn) (af (aZ 10 O) un xq O O (v:=.sl 1 rg 47 g4 0 x4.length) O<|dP O O<|aA (v:=iZ x) O<|dL (E:=([(rg,10)],[])) O O zSm (cfa zAp<|cfn) (af (aZ 10 O) un xq O O (v:=.sl 1 rg 47 g4 0 x4.length) O<|dP O O<|aA (v:=iZ x) O<|dP O O<|bm ui fo dZ O O hi3<|dL (E:=([(rg,47)],[])) O O zSm (cfo krZ<|cfa zAp<|cfn) (xQ (aZ 47 O) fo jc O (bH hi3 lzZ)<|dP O O<|aA (v:=.fn (.func 171) [] [.ptr rg 8 g3 0 0]) O<|dP O O<|aA (v:=.sl 1 rg 64 g14 0 ((so++[((x*(m.N.length:Int))+x3)]).length)) O ?_))))))
   refine dCE (vs:=[.sl 1 rg 64 g14 0 ((so++[((x*(m.N.length:Int))+x3)]).length)]) (V:=λ_=>bt r) (rd:=[(rg,64)]) (wk:=[]) (wr:=λ_=>[]) rfl (vZ<|vn) rfl (cfa zAp<|cfa zAp<|cfa zAp<|cfn) zSm (λ_=>rfl) (λS' hA hB=>eX (au (ag hA 0 rfl<|aZ 64 rfl)<|b_)<|km (aN (aM)<|fi) hc (λ_ he=>by obtain rfl:=he;exact⟨λi=>([]:List Nat).getD i 0,rfl,au (ag hA 0 rfl<|aZ 64 rfl) (b_)⟩)) (λ_=>je (ux)<|dCE (vs:=[iZ 3,iZ 0,bt r,.ptr rg 8 g3 0 0]) (V:=λ_=>iZ r1) (rd:=[]) (wk:=[(rg,8),(rg,9001)]) (wr:=λgm1=>[(rg,8,.arr 3 [.agg [iZ ((m.P.length:Int)*(m.N.length:Int)),.sl 3 rg 9001 (gm1 0) 0 u.length,iZ 0]],g3),(rg,9001,.arr 3 (List.map bb u),(gm1 0))]) rfl (vZ<|vZ<|vZ<|vZ<|vn) rfl (cfo krZ<|cfa zAp<|cfa zAp<|cfa zAp<|cfn) zSm (λ_=>rfl) (λS' hA hB=>eX (au (ag hB 0 rfl<|aZ 8 rfl)<|au (ag hB 1 rfl<|aZ 9001 rfl)<|b_)<|ga (aN (ah (bE rfl)<|aM)<|aN (aM)<|fi) hc1 (λ_ _ h1 he=>by obtain⟨rfl,rfl⟩:=he;exact⟨λi=>[h1].getD i 0,rfl,tr (tr<|b_)⟩)) (λgm1=>je (ql (ql (ux) aV) aV) ?_))
   exact dL (E:=([],[(rg,89)])) O O zSm (cfo krZ<|cfo krZ<|cfa zAp<|cfa zAp<|cfa zAp<|cfn) (bq bJ ok3 gE (es:=[iZ r1]) O (kk:=1) O O O O O O (λg17=>dL (E:=([(rg,89)],[(rf,Int.toNat x)])) O O zSm (cfo krZ<|cfo krZ<|cfo krZ<|cfo krZ<|cfo krZ<|cfa (by simp[kW,hrf])<|cfn) (DB hrf bJ oA ok3 gE (bH hi3 lzZ) O lzZ (xs:=[r1]) (enc:=iZ) (bQ (aZ 89 O) lzZ) (kk:=1) O O (λ_=>O) (λ_=>O) hg7 O (λg18=>dP O O<|bm ui fo dZ O O hi4<|dL (E:=([],[(rg,47)])) O O zSm (cfo krZ<|cfo krZ<|cfo krZ<|cfo krZ<|cfo krZ<|cfo krZ<|cfo krZ<|cfn) (uX (aZ 47 O) fo O O (bH hi4 lzZ) (l:=(at' x4 x++[r1])) O aV<|dN<|rZ<|tkZ h (λhg8 h=>ac<|aG O O hg8<|mvZ (iZ<|x3+1) O<|nZ<|⟨(((x3+1),(bu x4 x<|at' x4 x++[r1]),(so++[((x*(m.N.length:Int))+x3)]),u),(g14,(gm1 0),(kh g12 (Int.toNat x) g18))),(EWk.trans (EWk.ow (k:=10) (o':=.arr 1 [.sl 1 rg 47 g4 0 ((bu x4 x<|at' x4 x++[r1]).length)]) O (OW.one<|VWL.vwc<|vl' (VW.slen lzZ)<|vn)) (canon (aP<|aP<|aP<|fn)<|cC O O O O<|sc O<|sc O<|sc O<|sn)),h⟩))))))
  exact xsZ<|rZ<|tkZ h (λhg9 h=>ac<|aG O O hg9<|mvZ (iZ<|x+1) O<|nZ<|⟨(((x+1),x4,x5),(g11,g12)),(canon (aP<|aP<|fn)<|cC O O O O<|sc O<|sc O<|sn),h⟩)
 refine xsZ<|aj<|asZ .nil O<|nZ<|qZ<|aj<|ac<|aF ca O<|ac<|af (aZ 1 O) eZ fD O O (v:=eL an m.N) O<|ac<|aJ eI O<|mvZ (iZ 0) O<|nZ<|bZ<|Ep (EWk.unfam hrf nrf (K:=47) O)<|Vc.mat 14 144 1 O dZ (λg19=>lgZ h (g19,g7) (λy=>ba [(1,.ptr rg 1 g1 0 0),(2,.ptr rg 2 g2 0 0),(6,iZ (m.N.length:Int)),(8,.ptr rg 8 g3 0 0),(9,.fn (.func 171) [] [.ptr rg 8 g3 0 0]),(10,.ptr rg 10 g5 0 0),(14,.sl 1 rg 144 y.2.1 0 y.1.2.1.length),(95,eL an m.N),(96,iZ (m.N.length:Int)),(97,iZ y.1.1)]) (λy=>stL S rg [(1,.arr 2 [aB m],g1),(2,.arr 3 [.agg [iZ 0,.nil,iZ 0]],g2),(8,.arr 3 [.agg [iZ ((m.P.length:Int)*(m.N.length:Int)),.sl 3 rg 9001 y.2.2 0 y.1.2.2.length,iZ 0]],g3),(10,.arr 1 [.sl 1 rg 47 g4 0 x1.length],g5),(47,.arr 1 (List.map bt x1),g4),(144,.arr 1 (List.map iZ y.1.2.1),y.2.1),(9001,.arr 3 (List.map bb y.1.2.2),y.2.2)]) (canon (aP<|fZ<|fZ<|fc (VW.slen lzZ)<|fZ<|fZ<|fZ<|fn)<|cC O O O O<|sc O<|sc O<|sc O<|sn) (λy _ h=>?_))
 obtain⟨⟨x6,tops,x7⟩,⟨g20,g21⟩⟩:=y
 refine aj<|ac<|bj O O<|nZ<|qZ<|cZ h O (λhb4 h=>?_) (λhb4 h=>?_)
 ·refine kZ<|qZ<|bZ<|aj<|mvZ (iZ x6) O<|tkZ h (λhg10 h=>ac<|aQ eI ct dZ (λ_=>O) O O hg10<|ac<|cn ct dZ fE O O (v:=an (at' m.N x6)) O<|wZ rg<|aW gE ok3 (kk:=1) O (λg22=>wZ rg<|aW fG nT (kk:=3) O (λg23=>ac<|ay (aZ 15 O) sz3 dZ O (w:=iZ x6) O O O (v:=iZ x6) O aV<|ac<|ay (aZ 16 O) ct dZ O (w:=an (at' m.N x6)) O O O (v:=an (at' m.N x6)) O aV<|aU<|ac<|aF cd O<|ac<|af (aZ 8 O) sz3 ag3 O O (v:=iZ ((m.P.length:Int)*(m.N.length:Int))) O (ac<|aF b6 O<|ac<|af (aZ 8 O) eJ fv O O (v:=.sl 3 rg 9001 g21 0 x7.length) O<|ac<|gW d5 O<|tkZ h (λhg11 h=>ac<|aG O O hg11<|wZ rg<|aW gE ok3 (kk:=1) O (λg24=>ac<|ay (aZ 17 O) sz3 dZ O (w:=iZ (((m.P.length:Int)*(m.N.length:Int))+(x7.length:Int))) O O O (v:=iZ (((m.P.length:Int)*(m.N.length:Int))+(x7.length:Int))) O aV (aU<|wZ rg<|qq (vs:=[]) (us:=[.ptr rg 16 g23 0 0,.ptr rg 10 g5 0 0,.ptr rg 15 g22 0 0,.ptr rg 17 g24 0 0]) O O<|asZ (.fn (.func 172) [] [.ptr rg 16 g23 0 0,.ptr rg 10 g5 0 0,.ptr rg 15 g22 0 0,.ptr rg 17 g24 0 0]) O<|nZ<|qZ<|aj<|ac<|aF b6 O<|ac<|af (aZ 16 O) eJ fv O O (v:=eL bb ((at' m.N x6).V)) O (ac<|aJ d5 O<|mvZ (iZ 0) O<|nZ<|bZ ?_))))))))
  refine lgZ h g21 (λy=>ba [(1,.ptr rg 1 g1 0 0),(2,.ptr rg 2 g2 0 0),(6,iZ (m.N.length:Int)),(8,.ptr rg 8 g3 0 0),(9,.fn (.func 171) [] [.ptr rg 8 g3 0 0]),(10,.ptr rg 10 g5 0 0),(14,.sl 1 rg 144 g20 0 tops.length),(16,.ptr rg 16 g23 0 0),(18,.fn (.func 172) [] [.ptr rg 16 g23 0 0,.ptr rg 10 g5 0 0,.ptr rg 15 g22 0 0,.ptr rg 17 g24 0 0]),(95,eL an m.N),(96,iZ (m.N.length:Int)),(97,iZ x6),(110,eL bb ((at' m.N x6).V)),(111,iZ (((at' m.N x6).V).length:Int)),(112,iZ y.1.1)]) (λy=>stL S rg [(1,.arr 2 [aB m],g1),(2,.arr 3 [.agg [iZ 0,.nil,iZ 0]],g2),(8,.arr 3 [.agg [iZ ((m.P.length:Int)*(m.N.length:Int)),.sl 3 rg 9001 y.2 0 y.1.2.length,iZ 0]],g3),(10,.arr 1 [.sl 1 rg 47 g4 0 x1.length],g5),(15,.arr 1 [iZ x6],g22),(16,.arr 3 [an (at' m.N x6)],g23),(17,.arr 1 [iZ (((m.P.length:Int)*(m.N.length:Int))+(x7.length:Int))],g24),(47,.arr 1 (List.map bt x1),g4),(144,.arr 1 (List.map iZ tops),g20),(9001,.arr 3 (List.map bb y.1.2),y.2)]) (canon (aP<|aP<|aP<|fZ<|fZ<|fZ<|fn)<|cC O O O O<|cC O O O O<|sc O<|sc O<|sn) (λy _ h=>?_)
  obtain⟨⟨x8,x9⟩,g25⟩:=y
  refine aj<|ac<|bj O O<|nZ<|qZ<|cZ h O (λhb5 h=>?_) (λhb5 h=>?_)
  ·refine kZ<|qZ<|bZ<|aj<|tkZ h (λhg12 h=>ac<|aQ d5 cU dZ (λ_=>O) O O hg12<|ac<|cn cU dZ rP O O (v:=bb (at' ((at' m.N x6).V) x8)) O (wZ rg<|aW fx k_ (kk:=3) O (λg26=>ac<|ay (aZ 20 O) cU dZ O (w:=bb (at' ((at' m.N x6).V) x8)) O O O (v:=bb (at' ((at' m.N x6).V) x8)) O aV (aU<|asZ .nil O<|nZ<|qZ<|aj<|ac<|aF eB O<|ac<|af (aZ 20 O) fo jc O O (v:=bt ((at' ((at' m.N x6).V) x8).M)) O (ac<|aJ bJ O<|mvZ (iZ 0) O<|nZ<|bZ<|Vc.mat 21 128 1 O dZ (λg27=>?_))))))
   refine lgZ h g27 (λy=>ba [(1,.ptr rg 1 g1 0 0),(2,.ptr rg 2 g2 0 0),(6,iZ (m.N.length:Int)),(8,.ptr rg 8 g3 0 0),(9,.fn (.func 171) [] [.ptr rg 8 g3 0 0]),(10,.ptr rg 10 g5 0 0),(14,.sl 1 rg 144 g20 0 tops.length),(16,.ptr rg 16 g23 0 0),(18,.fn (.func 172) [] [.ptr rg 16 g23 0 0,.ptr rg 10 g5 0 0,.ptr rg 15 g22 0 0,.ptr rg 17 g24 0 0]),(20,.ptr rg 20 g26 0 0),(21,.sl 1 rg 128 y.2 0 y.1.2.length),(95,eL an m.N),(96,iZ (m.N.length:Int)),(97,iZ x6),(110,eL bb ((at' m.N x6).V)),(111,iZ (((at' m.N x6).V).length:Int)),(112,iZ x8),(117,bt ((at' ((at' m.N x6).V) x8).M)),(118,iZ (((at' ((at' m.N x6).V) x8).M).length:Int)),(119,iZ y.1.1)]) (λy=>stL S rg [(1,.arr 2 [aB m],g1),(2,.arr 3 [.agg [iZ 0,.nil,iZ 0]],g2),(8,.arr 3 [.agg [iZ ((m.P.length:Int)*(m.N.length:Int)),.sl 3 rg 9001 g25 0 x9.length,iZ 0]],g3),(10,.arr 1 [.sl 1 rg 47 g4 0 x1.length],g5),(15,.arr 1 [iZ x6],g22),(16,.arr 3 [an (at' m.N x6)],g23),(17,.arr 1 [iZ (((m.P.length:Int)*(m.N.length:Int))+(x7.length:Int))],g24),(20,.arr 3 [bb (at' ((at' m.N x6).V) x8)],g26),(47,.arr 1 (List.map bt x1),g4),(128,.arr 1 (List.map iZ y.1.2),y.2),(144,.arr 1 (List.map iZ tops),g20),(9001,.arr 3 (List.map bb x9),g25)]) (canon (aP<|aP<|fZ<|fZ<|fc (VW.slen lzZ)<|aP<|aP<|fZ<|fn)<|cC O O O O<|cC O O O O<|cC O O O O<|sn) (λy _ h=>?_)
   obtain⟨⟨x10,args⟩,g28⟩:=y
   refine aj<|ac<|bj O O<|nZ<|qZ<|cZ h O (λhb6 h=>?_) (λhb6 h=>?_)
   ·refine kZ<|qZ<|bZ<|aj<|tkZ h (λhg13 h=>ac<|aQ bJ sz3 dZ (λ_=>O) O O hg13<|ac<|aL sz3 ag3 O O (v:=iZ (at' ((at' ((at' m.N x6).V) x8).M) x10)) O (stZ h (λa hs h=>wZ rg<|a9 (v:=iZ a) (by subst hs;rfl)<|nZ<|rZ<|mvZ (.sl 1 rg 128 g28 0 args.length) O<|mvZ (.fn (.func 172) [] [.ptr rg 16 g23 0 0,.ptr rg 10 g5 0 0,.ptr rg 15 g22 0 0,.ptr rg 17 g24 0 0]) O<|mvZ (iZ a) O<|ac<|clZ O<|eX (au (aZ 16 O)<|au (aZ 10 O)<|au (aZ 15 O)<|au (aZ 17 O)<|au (aZ 47 O)<|b_)<|js (aN (ah (bE O)<|ah (bE O)<|ah (bE O)<|ah (bE O)<|aM)<|aN (ah (bE O)<|ah (bE O)<|ah (bE O)<|aM)<|aN (ah (bE O)<|ah (bE O)<|aM)<|aN (ah (bE O)<|aM)<|aN (aM)<|fi) h λr2 h=>ck (au (aZ 16 O)<|au (aZ 10 O)<|au (aZ 15 O)<|au (aZ 17 O)<|au (aZ 47 O)<|b_)<|wZ rg<|bq bJ ok3 gE (es:=[iZ r2]) O (kk:=1) O O O O O O (λg29=>tkZ h (λhg14 h=>wZ rg<|cS bJ oA ok3 gE (es:=args) (xs:=[r2]) (enc:=iZ) (aZ 128 O) lzZ (bQ (aZ 127 O) lzZ) (kk:=1) O O (λ_=>O) (λ_=>O) hg14 O (λ_=>aV) (λg30=>asZ (.sl 1 rg 128 g30 0<|(args++[r2]).length) O<|nZ<|rZ<|tkZ h (λhg15 h=>ac<|aG O O hg15<|mvZ (iZ<|x10+1) O<|nZ ?_)))))))
    exact⟨(((x10+1),(args++[r2])),g30),(canon (aP<|aP<|aP<|aP<|aP<|fn)<|cC O O O O<|cC O O O O<|cC O O O O<|sn),h⟩
   refine xsZ<|rZ<|mvZ (.fn (.func 171) [] [.ptr rg 8 g3 0 0]) O<|ac<|aF ft O<|ac<|af (aZ 20 O) sz3 ag3 O O (v:=iZ ((at' ((at' m.N x6).V) x8).D)) O (ac<|aF dW O<|ac<|af (aZ 20 O) sz3 ag3 O O (v:=iZ ((at' ((at' m.N x6).V) x8).K)) O (mvZ (.sl 1 rg 128 g28 0 args.length) O ?_))
   refine fw (bw (k:=128) (xs:=List.map iZ args) O (es:=[(1,.ptr rg 1 g1 0 0),(2,.ptr rg 2 g2 0 0),(6,iZ (m.N.length:Int)),(8,.ptr rg 8 g3 0 0),(9,.fn (.func 171) [] [.ptr rg 8 g3 0 0]),(10,.ptr rg 10 g5 0 0),(14,.sl 1 rg 144 g20 0 tops.length),(16,.ptr rg 16 g23 0 0),(18,.fn (.func 172) [] [.ptr rg 16 g23 0 0,.ptr rg 10 g5 0 0,.ptr rg 15 g22 0 0,.ptr rg 17 g24 0 0]),(95,eL an m.N),(96,iZ (m.N.length:Int)),(97,iZ x6),(110,eL bb ((at' m.N x6).V)),(111,iZ (((at' m.N x6).V).length:Int)),(112,iZ x8),(130,.fn (.func 171) [] [.ptr rg 8 g3 0 0]),(132,iZ ((at' ((at' m.N x6).V) x8).D)),(134,iZ ((at' ((at' m.N x6).V) x8).K)),(135,bt args)]) (aP<|fZ<|fZ<|fc (gh O)<|aP<|aP<|fZ<|fZ<|fZ<|fc (bk O)<|fn) (m:=[(1,.arr 2 [aB m],g1),(2,.arr 3 [.agg [iZ 0,.nil,iZ 0]],g2),(8,.arr 3 [.agg [iZ ((m.P.length:Int)*(m.N.length:Int)),.sl 3 rg 9001 g25 0 x9.length,iZ 0]],g3),(10,.arr 1 [.sl 1 rg 47 g4 0 x1.length],g5),(15,.arr 1 [iZ x6],g22),(16,.arr 3 [an (at' m.N x6)],g23),(17,.arr 1 [iZ (((m.P.length:Int)*(m.N.length:Int))+(x7.length:Int))],g24),(47,.arr 1 (List.map bt x1),g4),(144,.arr 1 (List.map iZ tops),g20),(9001,.arr 3 (List.map bb x9),g25)]) (cC O O O O<|cC O O O O<|sc O<|sc O<|sn)) ?_
   exact ac<|clZ O<|eX (au (aZ 8 O)<|au (aZ 9001 O)<|b_)<|ga (aN (ah (bE O)<|aM)<|aN (aM)<|fi) h λu1 r3 g31 h=>ck (b8 (b8 (b_) aV) aV)<|nZ<|rZ<|tkZ h (λhg16 h=>ac<|aG O O hg16<|mvZ (iZ<|x8+1) O<|nZ<|⟨(((x8+1),u1),g31),(canon (aP<|aP<|aP<|fZ<|fZ<|fZ<|fn)<|cC O O O O<|cC O O O O<|sc O<|sc O<|sn),h⟩)
  exact xsZ<|rZ<|mvZ (.sl 1 rg 144 g20 0 tops.length) O<|mvZ (.fn (.func 172) [] [.ptr rg 16 g23 0 0,.ptr rg 10 g5 0 0,.ptr rg 15 g22 0 0,.ptr rg 17 g24 0 0]) O<|ac<|aF jA O<|ac<|af (aZ 16 O) sz3 ag3 O O (v:=iZ ((at' m.N x6).F)) O (ac<|clZ O<|eX (au (aZ 16 O)<|au (aZ 10 O)<|au (aZ 15 O)<|au (aZ 17 O)<|au (aZ 47 O)<|b_)<|js (aN (ah (bE O)<|ah (bE O)<|ah (bE O)<|ah (bE O)<|aM)<|aN (ah (bE O)<|ah (bE O)<|ah (bE O)<|aM)<|aN (ah (bE O)<|ah (bE O)<|aM)<|aN (ah (bE O)<|aM)<|aN (aM)<|fi) h λr4 h=>ck (au (aZ 16 O)<|au (aZ 10 O)<|au (aZ 15 O)<|au (aZ 17 O)<|au (aZ 47 O)<|b_)<|wZ rg<|bq bJ ok3 gE (es:=[iZ r4]) O (kk:=1) O O O O O O (λg32=>tkZ h (λhg17 h=>wZ rg<|cS bJ oA ok3 gE (es:=tops) (xs:=[r4]) (enc:=iZ) (aZ 144 O) lzZ (bQ (aZ 143 O) lzZ) (kk:=1) O O (λ_=>O) (λ_=>O) hg17 O (λ_=>aV) (λg33=>asZ (.sl 1 rg 144 g33 0<|(tops++[r4]).length) O<|nZ<|rZ<|tkZ h (λhg18 h=>ac<|aG O O hg18<|mvZ (iZ<|x6+1) O<|nZ<|⟨(((x6+1),(tops++[r4]),x9),(g33,g25)),(canon (aP<|aP<|fZ<|fZ<|fn)<|cC O O O O<|sc O<|sc O<|sc O<|sn),h⟩)))))
 refine xsZ<|aj<|mvZ (.sl 1 rg 144 g20 0 tops.length) O<|tkZ h (λhi5 h=>ac<|bm bJ sz3 dZ O O hi5<|ac<|cc (aZ 144 O) sz3 ag3 O (bH hi5 lzZ) O (v:=iZ (at' tops 0)) O<|ac<|aF jA O<|ac<|ay (aZ 8 O) sz3 dZ O (w:=iZ (at' tops 0)) O O O (v:=.agg [iZ ((m.P.length:Int)*(m.N.length:Int)),.sl 3 rg 9001 g21 0 x7.length,iZ (at' tops 0)]) O aV (nZ<|jgZ (γ:=Nat×Nat×Nat×Nat) h (λy=>ba [(1,.ptr rg 1 y.2.1 0 0),(2,.ptr rg 2 y.2.2.1 0 0),(8,.ptr rg 8 y.2.2.2.1 0 0)]) (λy=>stL S rg [(1,.arr 2 [aB m],y.2.1),(2,.arr 3 [.agg [iZ 0,.nil,iZ 0]],y.2.2.1),(8,.arr 3 [.agg [iZ ((m.P.length:Int)*(m.N.length:Int)),.sl 3 rg 9001 y.2.2.2.2 0 y.1.2.length,iZ y.1.1]],y.2.2.2.1),(9001,.arr 3 (List.map bb y.1.2),y.2.2.2.2)]) (λy h=>?_) (λ_ h=>?_)))
 ·obtain⟨⟨x11,x12⟩,⟨g34,g35,g36,g37⟩⟩:=y
  refine qZ<|aj<|ac<|aF b6 O<|ac<|af (aZ 8 O) eJ fv O O (v:=.sl 3 rg 9001 g37 0 x12.length) O<|ac<|gW d5 O<|ac<|c9 O O<|nZ<|cZ h O (λhb7 h=>?_) (λhb7 h=>?_)
  ·exact aj<|ac<|bG ug fG tk sR ct (ps:=[]) O O (v:=.agg [iZ 0,.nil,iZ 0]) O<|ac<|cm (by rw[gQ];trivial) (v:=iZ 4) O<|ac<|ay (aZ 2 O) ct dZ O (w:=.agg [iZ 0,.nil,iZ 0]) O O O (v:=.agg [iZ 0,.nil,iZ 0]) O aV<|asZ .nil O<|asZ (.iface 82<|iZ 4) O<|aE<|bc (aZ 2 O) ct dZ fE O O (v:=.agg [iZ 0,.nil,iZ 0]) O<|aC (v:=.nil) O<|aC (v:=.iface 82 (iZ 4)) O<|aK<|aO hrg (VW.tupL<|vl' (VW.aggL<|vZ<|vl' (VW.nilL)<|vZ<|vn)<|vl' (VW.nilL)<|vZ<|vn)<|hQ _ _ _ h
  refine kZ<|aj<|asZ .nil O<|nZ<|qZ<|aj<|ac<|aF cD O<|ac<|af (aZ 1 O) gn h_ O O (v:=eL (eL am) m.P) O<|ac<|aJ fC O<|mvZ (iZ 0) O<|nZ<|bZ<|Vc.mat 24 180 3 O dZ (λg38=>lgZ h g38 (λy=>ba [(2,.ptr rg 2 g35 0 0),(8,.ptr rg 8 g36 0 0),(24,.sl 3 rg 180 y.2 0 y.1.2.length),(163,eL (eL am) m.P),(164,iZ (m.P.length:Int)),(165,iZ y.1.1)]) (λy=>stL S rg [(2,.arr 3 [.agg [iZ 0,.nil,iZ 0]],g35),(8,.arr 3 [.agg [iZ ((m.P.length:Int)*(m.N.length:Int)),.sl 3 rg 9001 g37 0 x12.length,iZ x11]],g36),(180,.arr 3 (List.map am y.1.2),y.2),(9001,.arr 3 (List.map bb x12),g37)]) (canon (fZ<|fZ<|fc (VW.slen lzZ)<|fZ<|fZ<|fZ<|fn)<|cC O O O O<|sn) (λy _ h=>?_))
  obtain⟨⟨x13,p⟩,g39⟩:=y
  refine aj<|ac<|bj O O<|nZ<|qZ<|cZ h O (λhb8 h=>?_) (λhb8 h=>?_)
  ·refine kZ<|qZ<|bZ<|aj<|tkZ h (λhg19 h=>ac<|aQ fC gp dZ (λ_=>O) O O hg19<|ac<|aL gp oB O O (v:=eL am (at' m.P x13)) O<|asZ (eL am<|at' m.P x13) O<|aU<|mvZ (eL am<|at' m.P x13) O<|ac<|aJ dM O<|mvZ (iZ 0) O<|nZ<|bZ<|lgZ h g39 (λy=>ba [(2,.ptr rg 2 g35 0 0),(8,.ptr rg 8 g36 0 0),(24,.sl 3 rg 180 y.2 0 y.1.2.length),(163,eL (eL am) m.P),(164,iZ (m.P.length:Int)),(165,iZ x13),(169,eL am (at' m.P x13)),(170,iZ ((at' m.P x13).length:Int)),(171,iZ y.1.1)]) (λy=>stL S rg [(2,.arr 3 [.agg [iZ 0,.nil,iZ 0]],g35),(8,.arr 3 [.agg [iZ ((m.P.length:Int)*(m.N.length:Int)),.sl 3 rg 9001 g37 0 x12.length,iZ x11]],g36),(180,.arr 3 (List.map am y.1.2),y.2),(9001,.arr 3 (List.map bb x12),g37)]) (canon (aP<|aP<|fZ<|fn)<|cC O O O O<|sn) (λy _ h=>?_))
   obtain⟨⟨x14,p1⟩,g40⟩:=y
   refine aj<|ac<|bj O O<|nZ<|qZ<|cZ h O (λhb9 h=>?_) (λhb9 h=>?_)
   ·exact kZ<|qZ<|bZ<|aj<|tkZ h (λhg20 h=>ac<|aQ dM aS dZ (λ_=>O) O O hg20<|ac<|cn aS dZ bz O O (v:=am (at' (at' m.P x13) x14)) O (wZ rg<|aW bF dh (kk:=3) O (λg41=>ac<|ay (aZ 28 O) aS dZ O (w:=am (at' (at' m.P x13) x14)) O O O (v:=am (at' (at' m.P x13) x14)) O aV (nZ<|rZ<|mvZ (.sl 3 rg 180 g40 0 p1.length) O<|ac<|aw (aZ 28 O) aS dZ bz O O (v:=am (at' (at' m.P x13) x14)) O (ac<|bG nK bF li kX aS (ps:=[]) O O (v:=.agg [.bool false,.nil,.nil]) O<|wZ rg<|Ag (us:=[am (at' (at' m.P x13) x14),am (⟨false,[],[]⟩:GRat)]) O (vZ<|vl' (VW.aggL<|vZ<|vl' (VW.nilL)<|vl' (VW.nilL)<|vn)<|vn) (io h λr5 h=>wZ rg<|bq dM dh bF (es:=[am r5]) O (kk:=3) O O O O O O (λg42=>tkZ h (λhg21 h=>wZ rg<|cS dM tg dh bF (es:=p1) (xs:=[r5]) (enc:=am) (aZ 180 O) lzZ (bQ (aZ 179 O) lzZ) (kk:=3) O O (λ_=>O) (λ_=>O) hg21 O (λ_=>aV) (λg43=>asZ (.sl 3 rg 180 g43 0<|(p1++[r5]).length) O<|nZ<|rZ<|tkZ h (λhg22 h=>ac<|aG O O hg22<|mvZ (iZ<|x14+1) O<|nZ<|⟨(((x14+1),(p1++[r5])),g43),(canon (aP<|aP<|fZ<|fn)<|cC O O O O<|sn),h⟩))))))))))
   exact xsZ<|rZ<|tkZ h (λhg23 h=>ac<|aG O O hg23<|mvZ (iZ<|x13+1) O<|nZ<|⟨(((x13+1),p1),g40),(canon (aP<|fZ<|fZ<|fn)<|cC O O O O<|sn),h⟩)
  exact xsZ<|aj<|ac<|aw (aZ 8 O) ct dZ fE O O (v:=.agg [iZ ((m.P.length:Int)*(m.N.length:Int)),.sl 3 rg 9001 g37 0 x12.length,iZ x11]) O (mvZ (.sl 3 rg 180 g39 0 p.length) O<|ac<|ay (aZ 2 O) ct dZ O (w:=.agg [iZ ((m.P.length:Int)*(m.N.length:Int)),.sl 3 rg 9001 g37 0 x12.length,iZ x11]) O O O (v:=.agg [iZ ((m.P.length:Int)*(m.N.length:Int)),.sl 3 rg 9001 g37 0 x12.length,iZ x11]) O aV (asZ (.sl 3 rg 180 g39 0 p.length) O<|asZ .niface O<|aE<|bc (aZ 2 O) ct dZ fE O O (v:=.agg [iZ ((m.P.length:Int)*(m.N.length:Int)),.sl 3 rg 9001 g37 0 x12.length,iZ x11]) O (aC (v:=.sl 3 rg 180 g39 0 p.length) O<|aC (v:=.niface) O<|aK<|br (k:=180) (xs:=List.map am p) O (v':=.tuple [.agg [iZ ((m.P.length:Int)*(m.N.length:Int)),.sl 3 rg 9001 g37 0 x12.length,iZ x11],eL am p,.niface]) (VW.tupL<|vl' (VW.aggL<|vZ<|vl' (gh O)<|vZ<|vn)<|vl' (bk O)<|vZ<|vn) (br (k:=9001) (xs:=List.map bb x12) O (v':=.tuple [.agg [iZ ((m.P.length:Int)*(m.N.length:Int)),eL bb x12,iZ x11],eL am p,.niface]) (VW.tupL<|vl' (VW.aggL<|vZ<|vl' (bk O)<|vZ<|vn)<|vZ<|vZ<|vn) (aO hrg (VW.tupL<|vZ<|vZ<|vZ<|vn)<|hQ _ _ _ h)))))
 refine aj<|mvZ (iZ (m.N.length:Int)) O<|ac<|c9 O O<|nZ<|cZ h O (λhb10 h=>?_) (λhb10 h=>?_)
 ·exact rZ<|mvZ (.fn (.func 171) [] [.ptr rg 8 g3 0 0]) O<|mvZ (.sl 1 rg 144 g20 0 tops.length) O<|fw (bw (k:=144) (xs:=List.map iZ tops) O (es:=[(1,.ptr rg 1 g1 0 0),(2,.ptr rg 2 g2 0 0),(8,.ptr rg 8 g3 0 0),(152,.fn (.func 171) [] [.ptr rg 8 g3 0 0]),(153,bt tops)]) (aP<|fc (bk O)<|fn) (m:=[(1,.arr 2 [aB m],g1),(2,.arr 3 [.agg [iZ 0,.nil,iZ 0]],g2),(8,.arr 3 [.agg [iZ ((m.P.length:Int)*(m.N.length:Int)),.sl 3 rg 9001 g21 0 x7.length,iZ (at' tops 0)]],g3),(9001,.arr 3 (List.map bb x7),g21)]) (cC O O O O<|sn)) (ac<|clZ O<|eX (au (aZ 8 O)<|au (aZ 9001 O)<|b_)<|ga (aN (ah (bE O)<|aM)<|aN (aM)<|fi) h λu2 r6 g44 h=>ck (b8 (b8 (b_) aV) aV)<|ac<|aF jA O<|ac<|ay (aZ 8 O) sz3 dZ O (w:=iZ r6) O O O (v:=.agg [iZ ((m.P.length:Int)*(m.N.length:Int)),.sl 3 rg 9001 g44 0 u2.length,iZ r6]) O aV (nZ<|⟨((r6,u2),(g1,g2,g3,g44)),(canon (fZ<|fZ<|fZ<|fn)<|cC O O O O<|sn),h⟩))
 exact kZ<|⟨(((at' tops 0),x7),(g1,g2,g3,g21)),(canon (fZ<|fZ<|fZ<|fn)<|cC O O O O<|sn),h⟩
end Go.Proofs.YtnjgdkfhgmebjaaGreat
namespace Go.Proofs.YtnjgdkfhgmebjaaGreat
open Go.Gg Tryz
set_option maxRecDepth 100000
variable {S:St} {R:AV->St->Prop}
theorem mJ {f:GFormula} {Q:List Bool->Prop} (h:iS f Q) (hQ:∀r1,Q r1->R (eL AV.bool r1) S) :
  Ctr prog 222 [an f] S R:=by
 refine aI func222 rfl ntmps222 results222 krZ (λrg hrg=>?_)
 refine aj<|wZ rg<|bC (v:=an f) O O (kk:=3) O dZ (λg1=>asZ .nil O<|aU<|ac<|aF cd O<|ac<|af (aZ 1 O) sz3 ag3 O O (v:=iZ f.A) O<|ac<|aF b6 O<|ac<|af (aZ 1 O) eJ fv O O (v:=eL bb f.V) O<|ac<|aJ d5 O<|tkZ h (λhg h=>ac<|aG O O hg<|tkZ h (λhg1 h=>wZ rg<|gb gH D' ok4 (enc:=AV.bool) (z':=false) zV (kk:=1) O O O hg1 (λg2=>asZ (.sl 1 rg 13 g2 0<|Int.toNat<|f.A+(f.V.length:Int)) O<|aU<|mvZ (.sl 1 rg 13 g2 0<|Int.toNat<|f.A+(f.V.length:Int)) O<|ac<|aF jA O<|ac<|af (aZ 1 O) sz3 ag3 O O (v:=iZ f.F) O<|tkZ h (λhi h=>ac<|bm gH sz4 dZ O O hi<|ac<|bR (aZ 13 O) sz4 dZ (x':=true) (λ_=>O) O O (bH hi lzZ) O O aV<|nZ<|qZ<|aj<|ac<|aF b6 O<|ac<|af (aZ 1 O) eJ fv O O (v:=eL bb f.V) O<|ac<|aJ d5 O<|tkZ h (λhg2 h=>ac<|bW O O hg2<|asZ (iZ<|(f.V.length:Int)-1) O<|nZ<|bZ<|lpZ h (λy=>ba [(1,.ptr rg 1 g1 0 0),(3,.sl 1 rg 13 g2 0 y.2.length),(4,iZ y.1)]) (λy=>stL S rg [(1,.arr 3 [an f],g1),(13,.arr 1 (List.map AV.bool y.2),g2)]) (canon (fZ<|fc (VW.slen lzZ)<|fZ<|fn)<|sc O<|sc O<|sn) (λy _ h=>?_)))))))
 obtain⟨i,mark⟩:=y
 refine qZ<|aj<|mvZ (iZ i) O<|ac<|fB O O<|nZ<|cZ h O (λhb h=>?_) (λhb h=>?_)
 ·refine kZ<|qZ<|bZ<|aj<|mvZ (.sl 1 rg 13 g2 0 mark.length) O<|ac<|aF cd O<|ac<|af (aZ 1 O) sz3 ag3 O O (v:=iZ f.A) O<|mvZ (iZ i) O<|tkZ h (λhg3 h=>ac<|aG O O hg3<|tkZ h (λhi1 h=>ac<|bm gH sz4 dZ O O hi1<|ac<|cc (aZ 13 O) sz4 ag4 O (bH hi1 lzZ) O (v:=.bool (at' mark<|f.A+i)) O (nZ<|cZ h O (λhb1 h=>?_) (λhb1 h=>?_))))
  ·refine aj<|ac<|aF b6 O<|ac<|af (aZ 1 O) eJ fv O O (v:=eL bb f.V) O<|mvZ (iZ i) O<|tkZ h (λhg4 h=>ac<|aQ d5 cU dZ (λ_=>O) O O hg4<|ac<|faZ eB O O<|ac<|aL fo jc O O (v:=bt ((at' f.V i).M)) O (ac<|aJ bJ O<|mvZ (iZ 0) O<|nZ<|bZ<|lpZ h (λy=>ba [(1,.ptr rg 1 g1 0 0),(3,.sl 1 rg 13 g2 0 y.2.length),(4,iZ i),(38,bt ((at' f.V i).M)),(39,iZ (((at' f.V i).M).length:Int)),(40,iZ y.1)]) (λy=>stL S rg [(1,.arr 3 [an f],g1),(13,.arr 1 (List.map AV.bool y.2),g2)]) (canon (aP<|fZ<|fZ<|fn)<|sc O<|sc O<|sn) (λy _ h=>?_)))
   obtain⟨x,mark1⟩:=y
   refine aj<|ac<|bj O O<|nZ<|qZ<|cZ h O (λhb2 h=>?_) (λhb2 h=>?_)
   ·exact kZ<|qZ<|bZ<|aj<|tkZ h (λhg5 h=>ac<|aQ bJ sz3 dZ (λ_=>O) O O hg5<|ac<|aL sz3 ag3 O O (v:=iZ (at' ((at' f.V i).M) x)) O (asZ (iZ<|at' ((at' f.V i).M) x) O<|nZ<|rZ<|mvZ (.sl 1 rg 13 g2 0 mark1.length) O<|mvZ (iZ<|at' ((at' f.V i).M) x) O<|tkZ h (λhi2 h=>ac<|bm gH sz4 dZ O O hi2<|ac<|bR (aZ 13 O) sz4 dZ (x':=true) (λ_=>O) O O (bH hi2 lzZ) O O aV<|nZ<|rZ<|tkZ h (λhg6 h=>ac<|aG O O hg6<|mvZ (iZ<|x+1) O<|nZ<|⟨((x+1),(bu mark1 (at' ((at' f.V i).M) x) true)),(canon (fZ<|fc (VW.slen lzZ)<|aP<|fn)<|sc O<|sc O<|sn),h⟩))))
   exact xsZ<|rZ<|mvZ (iZ i) O<|tkZ h (λhg7 h=>ac<|bW O O hg7<|asZ (iZ<|i-1) O<|nZ<|⟨((i-1),mark1),(canon (fZ<|fZ<|fZ<|fn)<|sc O<|sc O<|sn),h⟩)
  exact kZ<|rZ<|mvZ (iZ i) O<|tkZ h (λhg8 h=>ac<|bW O O hg8<|asZ (iZ<|i-1) O<|nZ<|⟨((i-1),mark),(canon (fZ<|fZ<|fZ<|fn)<|sc O<|sc O<|sn),h⟩)
 exact xsZ<|aj<|mvZ (.sl 1 rg 13 g2 0 mark.length) O<|asZ (.sl 1 rg 13 g2 0 mark.length) O<|aE<|aC (v:=.sl 1 rg 13 g2 0 mark.length) O<|aK<|br (k:=13) (xs:=List.map AV.bool mark) O (v':=eL AV.bool mark) (bk O)<|goZ hrg<|hQ _ h
theorem sC {f:GFormula} {Q:GFormula->Option Int->Prop} (h:mc f Q) (hQ:∀r1 r2,Q r1 r2->R (.tuple [an r1,aY 82 r2]) S) :
  Ctr prog 141 [an f] S R:=by
 refine aI func141 rfl ntmps141 results141 krZ (λrg hrg=>?_)
 refine aj<|wZ rg<|bC (v:=an f) O O (kk:=3) O dZ (λg1=>wZ rg<|aW fG nT (kk:=3) O (λg2=>asZ .niface O<|nZ<|qZ<|aj<|ac<|aw (aZ 1 O) ct dZ fE O O (v:=an f) O<|ac<|clZ O<|ez h λe h=>asZ (aY 82 e) O<|aU<|mvZ (aY 82 e) O<|ac<|cK gk (E:=82) O O O<|nZ<|cZ h O (λhb h=>?_) (λhb h=>?_)))
 ·exact aj<|ac<|bG ug fG tk sR ct (ps:=[]) O O (v:=.agg [iZ 0,.nil,iZ 0]) O<|mvZ (aY 82 e) O<|ac<|ay (aZ 2 O) ct dZ O (w:=.agg [iZ 0,.nil,iZ 0]) O O O (v:=.agg [iZ 0,.nil,iZ 0]) O aV<|asZ (aY 82 e) O<|aE<|bc (aZ 2 O) ct dZ fE O O (v:=.agg [iZ 0,.nil,iZ 0]) O<|aC (v:=aY 82 e) O<|aK<|aO hrg (VW.tupL<|vl' (VW.aggL<|vZ<|vl' (VW.nilL)<|vZ<|vn)<|vZ<|vn)<|hQ _ _ h
 refine kZ<|aj<|ac<|aF cd O<|ac<|af (aZ 1 O) sz3 ag3 O O (v:=iZ f.A) O<|ac<|bG ug fG tk sR ct (ps:=[(0,iZ f.A)]) O O (v:=.agg [iZ f.A,.nil,iZ 0]) O<|wZ rg<|aW fG nT (kk:=3) O (λg3=>ac<|ay (aZ 5 O) ct dZ O (w:=.agg [iZ f.A,.nil,iZ 0]) O O O (v:=.agg [iZ f.A,.nil,iZ 0]) O aV<|aU<|ac<|aF cd O<|ac<|af (aZ 1 O) sz3 ag3 O O (v:=iZ f.A) O<|ac<|aF b6 O<|ac<|af (aZ 1 O) eJ fv O O (v:=eL bb f.V) O<|ac<|aJ d5 O<|tkZ h (λhg h=>ac<|aG O O hg<|tkZ h (λhg1 h=>wZ rg<|gb bJ oA ok3 (enc:=iZ) (z':=0) gE (kk:=1) O O O hg1 (λg4=>asZ (.sl 1 rg 29 g4 0<|Int.toNat<|f.A+(f.V.length:Int)) O<|nZ<|qZ<|aj<|ac<|aF cd O<|ac<|af (aZ 1 O) sz3 ag3 O O (v:=iZ f.A) O<|mvZ (iZ 0) O<|nZ<|bZ<|lpZ h (λy=>ba [(1,.ptr rg 1 g1 0 0),(2,.ptr rg 2 g2 0 0),(5,.ptr rg 5 g3 0 0),(6,.sl 1 rg 29 g4 0 y.2.length),(31,iZ f.A),(32,iZ y.1)]) (λy=>stL S rg [(1,.arr 3 [an f],g1),(2,.arr 3 [.agg [iZ 0,.nil,iZ 0]],g2),(5,.arr 3 [.agg [iZ f.A,.nil,iZ 0]],g3),(29,.arr 1 (List.map iZ y.2),g4)]) (canon (fZ<|fZ<|fZ<|fc (VW.slen lzZ)<|fZ<|fZ<|fn)<|cC O O O O<|sn) (λy _ h=>?_)))))
 obtain⟨x,to⟩:=y
 refine aj<|ac<|bj O O<|nZ<|qZ<|cZ h O (λhb1 h=>?_) (λhb1 h=>?_)
 ·exact kZ<|qZ<|bZ<|aj<|mvZ (iZ x) O<|asZ (iZ x) O<|nZ<|rZ<|mvZ (.sl 1 rg 29 g4 0 to.length) O<|mvZ (iZ x) O<|mvZ (iZ x) O<|tkZ h (λhi h=>ac<|bm bJ sz3 dZ O O hi<|ac<|bR (aZ 29 O) sz3 dZ (x':=x) (λ_=>O) O O (bH hi lzZ) O O aV<|nZ<|rZ<|tkZ h (λhg2 h=>ac<|aG O O hg2<|mvZ (iZ<|x+1) O<|nZ<|⟨((x+1),(bu to x x)),(canon (fZ<|fZ<|fZ<|fc (VW.slen lzZ)<|fZ<|fZ<|fn)<|cC O O O O<|sn),h⟩))
 refine xsZ<|qZ<|qZ ?_
 obtain⟨r,hc,h⟩:=h
 refine tkZ h (λhg3 h=>Vc.drawn' bA rg (fH [(1,pc (eL AV.bool r))]) krZ<|dL (E:=([(rg,1)],[])) O O zSm (cfn) (aw (aZ 1 O) ct dZ fE O O (v:=an f) O<|dC (vs:=[an f]) O (vZ<|vn) (λ_=>mJ hc (λ_ hr=>⟨by rw[hr],rfl⟩)) O<|dP O O<|aF cd O<|dL (E:=([(rg,1)],[])) O O zSm (cfa zAp<|cfn) (af (aZ 1 O) sz3 ag3 O O (v:=iZ f.A) O<|dP O O<|fO gH sz4 dZ (λ_=>O) O (l:=f.A) (h:=(r.length:Int)) O O hg3<|dP O O<|aJ gH O<|dP O O<|aA (v:=iZ 0) O<|dN<|bZ<|Vc.matB 5 1 96 3 (b:=λg5=>.agg [iZ f.A,.sl 3 rg 96 g5 0 0,iZ 0]) O O dZ dZ O (λg5=>lgZ h g5 (λy=>ba [(1,.ptr rg 1 g1 0 0),(2,.ptr rg 2 g2 0 0),(5,.ptr rg 5 g3 0 0),(6,.sl 1 rg 29 g4 0 y.1.2.1.length),(44,eL AV.bool (bf r f.A (r.length:Int))),(45,iZ ((bf r f.A (r.length:Int)).length:Int)),(46,iZ y.1.1)]) (λy=>stL S rg [(1,.arr 3 [an f],g1),(2,.arr 3 [.agg [iZ 0,.nil,iZ 0]],g2),(5,.arr 3 [.agg [iZ f.A,.sl 3 rg 96 y.2 0 y.1.2.2.length,iZ 0]],g3),(29,.arr 1 (List.map iZ y.1.2.1),g4),(96,.arr 3 (List.map bb y.1.2.2),y.2)]) (EWk.trans (EWk.ow (k:=5) (o':=.arr 3 [.agg [iZ f.A,.sl 3 rg 96 g5 0 ([].length),iZ 0]]) O<|OW.one<|VWL.vwc<|vZ<|vl' (VW.slen lzZ)<|vZ<|vn)<|canon (aP<|fZ<|fZ<|fZ<|fn)<|cC O O O O<|sc O<|sn) (λy _ h=>?_)))))
 obtain⟨⟨x1,to1,x2⟩,g6⟩:=y
 refine aj<|ac<|bj O O<|nZ<|qZ<|cZ h O (λhb2 h=>?_) (λhb2 h=>?_)
 ·refine kZ<|qZ<|bZ<|aj<|mvZ (iZ x1) O<|tkZ h (λhg4 h=>ac<|aQ gH sz4 dZ (λ_=>O) O O hg4<|ac<|aL sz4 ag4 O O (v:=.bool (at' (bf r f.A (r.length:Int)) x1)) O (asZ (iZ x1) O<|asZ (.bool<|at' (bf r f.A (r.length:Int)) x1) O<|nZ<|qZ<|aj<|mvZ (.bool<|at' (bf r f.A (r.length:Int)) x1) O<|ac<|gK O<|nZ<|cZ h O (λhb3 h=>?_) (λhb3 h=>?_)))
  ·exact xsZ<|rZ<|tkZ h (λhg5 h=>ac<|aG O O hg5<|mvZ (iZ<|x1+1) O<|nZ<|⟨(((x1+1),to1,x2),g6),(canon (aP<|fZ<|fZ<|fZ<|fn)<|cC O O O O<|sc O<|sn),h⟩)
  refine kZ<|aj<|ac<|aF b6 O<|ac<|af (aZ 1 O) eJ fv O O (v:=eL bb f.V) O<|mvZ (iZ x1) O<|tkZ h (λhg6 h=>ac<|aQ d5 cU dZ (λ_=>O) O O hg6<|ac<|cn cU dZ rP O O (v:=bb (at' f.V x1)) O<|wZ rg<|aW fx k_ (kk:=3) O (λg7=>ac<|ay (aZ 10 O) cU dZ O (w:=bb (at' f.V x1)) O O O (v:=bb (at' f.V x1)) O aV<|aU<|ac<|aF ft O<|ac<|af (aZ 10 O) sz3 ag3 O O (v:=iZ ((at' f.V x1).D)) O (ac<|aF dW O<|ac<|af (aZ 10 O) sz3 ag3 O O (v:=iZ ((at' f.V x1).K)) O (ac<|bG sQ fx vY um cU (ps:=[(0,iZ ((at' f.V x1).D)),(1,iZ ((at' f.V x1).K))]) O O (v:=.agg [iZ ((at' f.V x1).D),iZ ((at' f.V x1).K),.nil]) O (wZ rg<|aW fx k_ (kk:=3) O (λg8=>ac<|ay (aZ 11 O) cU dZ O (w:=.agg [iZ ((at' f.V x1).D),iZ ((at' f.V x1).K),.nil]) O O O (v:=.agg [iZ ((at' f.V x1).D),iZ ((at' f.V x1).K),.nil]) O aV (nZ<|qZ<|aj<|ac<|aF eB O<|ac<|af (aZ 10 O) fo jc O O (v:=bt ((at' f.V x1).M)) O (ac<|aJ bJ O<|mvZ (iZ 0) O<|nZ<|bZ<|Vc.matB 11 2 77 1 (b:=λg9=>.agg [iZ ((at' f.V x1).D),iZ ((at' f.V x1).K),.sl 1 rg 77 g9 0 0]) O O dZ dZ O (λg9=>?_)))))))))
  refine lgZ h g9 (λy=>ba [(1,.ptr rg 1 g1 0 0),(2,.ptr rg 2 g2 0 0),(5,.ptr rg 5 g3 0 0),(6,.sl 1 rg 29 g4 0 to1.length),(8,iZ x1),(11,.ptr rg 11 g8 0 0),(44,eL AV.bool (bf r f.A (r.length:Int))),(45,iZ ((bf r f.A (r.length:Int)).length:Int)),(46,iZ x1),(64,bt ((at' f.V x1).M)),(65,iZ (((at' f.V x1).M).length:Int)),(66,iZ y.1.1)]) (λy=>stL S rg [(1,.arr 3 [an f],g1),(2,.arr 3 [.agg [iZ 0,.nil,iZ 0]],g2),(5,.arr 3 [.agg [iZ f.A,.sl 3 rg 96 g6 0 x2.length,iZ 0]],g3),(11,.arr 3 [.agg [iZ ((at' f.V x1).D),iZ ((at' f.V x1).K),.sl 1 rg 77 y.2 0 y.1.2.length]],g8),(29,.arr 1 (List.map iZ to1),g4),(77,.arr 1 (List.map iZ y.1.2),y.2),(96,.arr 3 (List.map bb x2),g6)]) (EWk.trans (EWk.ow (k:=11) (o':=.arr 3 [.agg [iZ ((at' f.V x1).D),iZ ((at' f.V x1).K),.sl 1 rg 77 g9 0 ([].length)]]) O (OW.one<|VWL.vwc<|vZ<|vZ<|vl' (VW.slen lzZ)<|vn)) (canon (aP<|aP<|aP<|fn)<|cC O O O O<|sc O<|sc O<|sc O<|sn)) (λy _ h=>?_)
  obtain⟨⟨x3,x4⟩,g10⟩:=y
  refine aj<|ac<|bj O O<|nZ<|qZ<|cZ h O (λhb4 h=>?_) (λhb4 h=>?_)
  ·refine kZ<|qZ<|bZ<|aj<|tkZ h (λhg7 h=>ac<|aQ bJ sz3 dZ (λ_=>O) O O hg7<|ac<|aL sz3 ag3 O O (v:=iZ (at' ((at' f.V x1).M) x3)) O (asZ (iZ<|at' ((at' f.V x1).M) x3) O<|nZ<|tkZ h (λhi1 h=>tkZ h (λhg8 h=>Vc.drawn' bA rg (λ_=>fS) krZ<|dP O O<|aF eB O<|dL (E:=([(rg,11)],[])) O O zSm (cfn) (af (aZ 11 O) fo jc O O (v:=.sl 1 rg 77 g10 0 x4.length) O<|dP O O<|aA (v:=.sl 1 rg 29 g4 0 to1.length) O<|dP O O<|aA (v:=iZ (at' ((at' f.V x1).M) x3)) O (dP O O<|bm bJ sz3 dZ O O hi1<|dL (E:=([(rg,29)],[])) O O zSm (cfa zAp<|cfn) (cc (aZ 29 O) sz3 ag3 O (bH hi1 lzZ) O (v:=iZ (at' to1<|at' ((at' f.V x1).M) x3)) O (dL (E:=([],[(rg,76)])) O O zSm (cfo krZ<|cfa zAp<|cfn) (bq bJ ok3 gE (es:=[iZ (at' to1<|at' ((at' f.V x1).M) x3)]) O (kk:=1) O O O O O O (λg11=>dL (E:=([(rg,76)],[(rg,77)])) O O zSm (cfo krZ<|cfo krZ<|cfo krZ<|cfn) (cS bJ oA ok3 gE (es:=x4) (xs:=[(at' to1<|at' ((at' f.V x1).M) x3)]) (enc:=iZ) (aZ 77 O) lzZ (bQ (aZ 76 O) lzZ) (kk:=1) O O (λ_=>O) (λ_=>O) hg8 O (λ_=>aV) (λg12=>dP O O<|aF eB O ?_))))))))))))
   exact dL (E:=([],[(rg,11)])) O O zSm (cfo krZ<|cfo krZ<|cfo krZ<|cfo krZ<|cfn) (ay (aZ 11 O) fo dZ O (w:=.sl 1 rg 77 g12 0 ((x4++[(at' to1<|at' ((at' f.V x1).M) x3)]).length)) O O O (v:=.agg [iZ ((at' f.V x1).D),iZ ((at' f.V x1).K),.sl 1 rg 77 g12 0 ((x4++[(at' to1<|at' ((at' f.V x1).M) x3)]).length)]) O aV (dN<|rZ<|tkZ h (λhg9 h=>ac<|aG O O hg9<|mvZ (iZ<|x3+1) O<|nZ<|⟨(((x3+1),(x4++[(at' to1<|at' ((at' f.V x1).M) x3)])),g12),(canon (aP<|aP<|aP<|fn)<|cC O O O O<|sc O<|sc O<|sc O<|sn),h⟩)))
  refine xsZ<|aj<|mvZ (.sl 1 rg 29 g4 0 to1.length) O<|ac<|aF cd O<|ac<|af (aZ 1 O) sz3 ag3 O O (v:=iZ f.A) O<|mvZ (iZ x1) O<|tkZ h (λhg10 h=>ac<|aG O O hg10<|ac<|aF cd O<|ac<|af (aZ 1 O) sz3 ag3 O O (v:=iZ f.A) O<|ac<|aF b6 O<|ac<|af (aZ 5 O) eJ fv O O (v:=.sl 3 rg 96 g6 0 x2.length) O<|ac<|gW d5 O<|tkZ h (λhg11 h=>ac<|aG O O hg11<|tkZ h (λhi2 h=>ac<|bm bJ sz3 dZ O O hi2<|ac<|bR (aZ 29 O) sz3 dZ (x':=(f.A+(x2.length:Int))) (λ_=>O) O O (bH hi2 lzZ) O O aV<|nZ<|rZ<|ac<|aF b6 O<|ac<|af (aZ 5 O) eJ fv O O (v:=.sl 3 rg 96 g6 0 x2.length) O<|ac<|aw (aZ 11 O) cU dZ rP O O (v:=.agg [iZ ((at' f.V x1).D),iZ ((at' f.V x1).K),.sl 1 rg 77 g10 0 x4.length]) O ?_)))
  refine fw (bw (k:=77) (xs:=List.map iZ x4) O (es:=[(1,.ptr rg 1 g1 0 0),(2,.ptr rg 2 g2 0 0),(5,.ptr rg 5 g3 0 0),(6,.sl 1 rg 29 g4 0 to1.length),(44,eL AV.bool (bf r f.A (r.length:Int))),(45,iZ ((bf r f.A (r.length:Int)).length:Int)),(46,iZ x1),(93,.sl 3 rg 96 g6 0 x2.length),(94,.agg [iZ ((at' f.V x1).D),iZ ((at' f.V x1).K),bt x4])]) (fZ<|fZ<|fZ<|fc (gh O)<|fZ<|fZ<|fZ<|fc (gh O)<|fc (VW.aggL<|vZ<|vZ<|vl' (bk O)<|vn)<|fn) (m:=[(1,.arr 3 [an f],g1),(2,.arr 3 [.agg [iZ 0,.nil,iZ 0]],g2),(5,.arr 3 [.agg [iZ f.A,.sl 3 rg 96 g6 0 x2.length,iZ 0]],g3),(29,.arr 1 (List.map iZ<|bu to1 (f.A+x1)<|f.A+(x2.length:Int)),g4),(96,.arr 3 (List.map bb x2),g6)]) (cC O O O O<|sc O<|sn)) (wZ rg<|bq d5 k_ fx (es:=[.agg [iZ ((at' f.V x1).D),iZ ((at' f.V x1).K),bt x4]]) O (kk:=3) O O O O O O (λg14=>tkZ h (λhg12 h=>wZ rg<|cS d5 AC k_ fx (es:=x2) (xs:=[(⟨(at' f.V x1).D,(at' f.V x1).K,x4⟩:GNode)]) (enc:=bb) (aZ 96 O) lzZ (bQ (aZ 95 O) lzZ) (kk:=3) O O (λ_=>O) (λ_=>O) hg12 O (λ_=>aV) (λg15=>ac<|aF b6 O ?_))))
  exact ac<|ay (aZ 5 O) eJ dZ O (w:=.sl 3 rg 96 g15 0 ((x2++[(⟨(at' f.V x1).D,(at' f.V x1).K,x4⟩:GNode)]).length)) O O O (v:=.agg [iZ f.A,.sl 3 rg 96 g15 0 ((x2++[(⟨(at' f.V x1).D,(at' f.V x1).K,x4⟩:GNode)]).length),iZ 0]) O aV (nZ<|rZ<|tkZ h (λhg13 h=>ac<|aG O O hg13<|mvZ (iZ<|x1+1) O<|nZ<|⟨(((x1+1),(bu to1 (f.A+x1)<|f.A+(x2.length:Int)),(x2++[(⟨(at' f.V x1).D,(at' f.V x1).K,x4⟩:GNode)])),g15),(canon (fZ<|fZ<|fZ<|fc (VW.slen lzZ)<|fZ<|fZ<|fZ<|fn)<|cC O O O O<|sc O<|sn),h⟩))
 exact xsZ<|aj<|mvZ (.sl 1 rg 29 g4 0 to1.length) O<|ac<|aF jA O<|ac<|af (aZ 1 O) sz3 ag3 O O (v:=iZ f.F) O<|tkZ h (λhi3 h=>ac<|bm bJ sz3 dZ O O hi3<|ac<|cc (aZ 29 O) sz3 ag3 O (bH hi3 lzZ) O (v:=iZ (at' to1 f.F)) O<|ac<|aF jA O<|ac<|ay (aZ 5 O) sz3 dZ O (w:=iZ (at' to1 f.F)) O O O (v:=.agg [iZ f.A,.sl 3 rg 96 g6 0 x2.length,iZ (at' to1 f.F)]) O aV<|aU<|ac<|aw (aZ 5 O) ct dZ fE O O (v:=.agg [iZ f.A,.sl 3 rg 96 g6 0 x2.length,iZ (at' to1 f.F)]) O<|ac<|ay (aZ 2 O) ct dZ O (w:=.agg [iZ f.A,.sl 3 rg 96 g6 0 x2.length,iZ (at' to1 f.F)]) O O O (v:=.agg [iZ f.A,.sl 3 rg 96 g6 0 x2.length,iZ (at' to1 f.F)]) O aV<|asZ .niface O<|aE<|bc (aZ 2 O) ct dZ fE O O (v:=.agg [iZ f.A,.sl 3 rg 96 g6 0 x2.length,iZ (at' to1 f.F)]) O<|aC (v:=.niface) O<|aK<|br (k:=96) (xs:=List.map bb x2) O (v':=.tuple [.agg [iZ f.A,eL bb x2,iZ (at' to1 f.F)],.niface]) (VW.tupL<|vl' (VW.aggL<|vZ<|vl' (bk O)<|vZ<|vn)<|vZ<|vn)<|aO hrg (VW.tupL<|vZ<|vZ<|vn)<|hQ _ _ h)
theorem sD {f:GFormula} {Q:Int->Int->Option Int->Prop} (h:md f Q) (hQ:∀r1 r2 r3,Q r1 r2 r3->R (.tuple [iZ r1,iZ r2,aY 82 r3]) S) :
  Ctr prog 179 [an f] S R:=by
 refine aI func179 rfl ntmps179 results179 krZ (λrg hrg=>?_)
 refine aj<|wZ rg<|bC (v:=an f) O O (kk:=3) O dZ (λg1=>asZ (iZ 0) O<|asZ (iZ 0) O<|asZ .niface O<|nZ<|qZ<|aj<|ac<|aw (aZ 1 O) ct dZ fE O O (v:=an f) O<|ac<|clZ O<|ez h λe h=>asZ (aY 82 e) O<|aU<|mvZ (aY 82 e) O<|ac<|cK gk (E:=82) O O O<|nZ<|cZ h O (λhb h=>?_) (λhb h=>?_))
 ·exact aj<|mvZ (aY 82 e) O<|asZ (iZ 0) O<|asZ (iZ 0) O<|asZ (aY 82 e) O<|aE<|aC (v:=iZ 0) O<|aC (v:=iZ 0) O<|aC (v:=aY 82 e) O<|aK<|aO hrg (VW.tupL<|vZ<|vZ<|vZ<|vn)<|hQ _ _ _ h
 refine kZ<|qZ<|qZ ?_
 obtain⟨r,hc,h⟩:=h
 refine tkZ h (λhg h=>Vc.drawn' bA rg (fH [(1,pc (eL AV.bool r))]) krZ<|dL (E:=([(rg,1)],[])) O O zSm (cfn) (aw (aZ 1 O) ct dZ fE O O (v:=an f) O<|dC (vs:=[an f]) O (vZ<|vn) (λ_=>mJ hc (λ_ hr=>⟨by rw[hr],rfl⟩)) O<|dP O O<|aF cd O<|dL (E:=([(rg,1)],[])) O O zSm (cfa zAp<|cfn) (af (aZ 1 O) sz3 ag3 O O (v:=iZ f.A) O<|dP O O<|fO gH sz4 dZ (λ_=>O) O (l:=f.A) (h:=(r.length:Int)) O O hg<|dP O O<|aJ gH O<|dP O O<|aA (v:=iZ 0) O<|dN<|bZ<|lpZ h (λy=>ba [(1,.ptr rg 1 g1 0 0),(2,iZ y.1),(3,iZ y.2.1),(17,eL AV.bool (bf r f.A (r.length:Int))),(18,iZ ((bf r f.A (r.length:Int)).length:Int)),(19,iZ y.2.2)]) (λy=>stL S rg [(1,.arr 3 [an f],g1)]) (canon (aP<|fZ<|fZ<|fn)<|sc O<|sn) (λy _ h=>?_))))
 obtain⟨nodes,args,x⟩:=y
 refine aj<|ac<|bj O O<|nZ<|qZ<|cZ h O (λhb1 h=>?_) (λhb1 h=>?_)
 ·refine kZ<|qZ<|bZ<|aj<|mvZ (iZ x) O<|tkZ h (λhg1 h=>ac<|aQ gH sz4 dZ (λ_=>O) O O hg1<|ac<|aL sz4 ag4 O O (v:=.bool (at' (bf r f.A (r.length:Int)) x)) O (asZ (iZ x) O<|asZ (.bool<|at' (bf r f.A (r.length:Int)) x) O<|aU<|mvZ (.bool<|at' (bf r f.A (r.length:Int)) x) O<|nZ<|cZ h O (λhb2 h=>?_) (λhb2 h=>?_)))
  ·exact aj<|mvZ (iZ nodes) O<|tkZ h (λhg2 h=>ac<|aG O O hg2<|asZ (iZ<|nodes+1) O<|nZ<|rZ<|mvZ (iZ args) O<|ac<|aF b6 O<|ac<|af (aZ 1 O) eJ fv O O (v:=eL bb f.V) O<|mvZ (iZ x) O<|tkZ h (λhg3 h=>ac<|aQ d5 cU dZ (λ_=>O) O O hg3<|ac<|faZ eB O O<|ac<|aL fo jc O O (v:=bt ((at' f.V x).M)) O (ac<|aJ bJ O<|tkZ h (λhg4 h=>ac<|aG O O hg4<|stZ h (λargs1 hs h=>wZ rg<|a9 (v:=iZ args1) (by subst hs;rfl)<|nZ<|rZ<|tkZ h (λhg5 h=>ac<|aG O O hg5<|mvZ (iZ<|x+1) O<|nZ<|⟨((nodes+1),args1,(x+1)),(canon (aP<|fZ<|fZ<|fn)<|sc O<|sn),h⟩))))))
  exact kZ<|rZ<|tkZ h (λhg6 h=>ac<|aG O O hg6<|mvZ (iZ<|x+1) O<|nZ<|⟨(nodes,args,(x+1)),(canon (aP<|fZ<|fZ<|fn)<|sc O<|sn),h⟩)
 exact xsZ<|aj<|mvZ (iZ nodes) O<|mvZ (iZ args) O<|asZ (iZ nodes) O<|asZ (iZ args) O<|asZ .niface O<|aE<|aC (v:=iZ nodes) O<|aC (v:=iZ args) O<|aC (v:=.niface) O<|aK<|aO hrg (VW.tupL<|vZ<|vZ<|vZ<|vn)<|hQ _ _ _ h
end Go.Proofs.YtnjgdkfhgmebjaaGreat
