/- Walks of functions. Conditions: none. -/
import Derived.Test.YtcmagbhiioheeaaGreatWa
import Derived.Test.YtcmagbhiioheeaaGreatGgTy
import Derived.Test.YtcmagbhiioheeaaGreatGd
import Derived.Test.YtcmagbhiioheeaaGreatGh
import Derived.Test.YtcmagbhiioheeaaGreatK1
namespace Go.Proofs.YtcmagbhiioheeaaGreat
open Go.Gg Tryz
set_option maxRecDepth 100000
variable {S:St} {R:AV->St->Prop}
theorem oR {kind:Int} {n:Int} {Q:Bool->Prop} (h:iE kind n Q) (hQ:∀r1,Q r1->R (AV.bool r1) S) :
  Ctr prog 133 [iZ kind,iZ n] S R:=by
 refine aG func133 rfl ntmps133 results133 krZ (λrg hrg=>?_)
 refine ah<|asZ (.bool false) O<|nZ<|qZ<|ah<|mvZ (iZ kind) O<|nZ<|bZ<|ah<|ac<|bJ O O<|asZ (.bool<|kind == 0) O<|nZ<|cZ h O (λhb h=>?_) (λhb h=>?_)
 ·exact ah<|mvZ (iZ n) O<|ac<|bJ O O<|asZ (.bool<|n == 0) O<|aE<|gv1 hrg<|hQ _ h
 refine ah<|ac<|bJ O O<|asZ (.bool<|kind == 1) O<|nZ<|cZ h O (λhb1 h=>?_) (λhb1 h=>?_)
 ·exact ah<|mvZ (iZ n) O<|ac<|bJ O O<|asZ (.bool<|n == 1) O<|aE<|gv1 hrg<|hQ _ h
 refine kZ<|ah<|mvZ (iZ n) O<|ac<|fo O O<|mvZ (.bool<|decide<|1<=n) O<|gtZ h O O (λhb2 h=>?_) (λhb2 h=>?_)
 ·exact mvZ (iZ n) O<|gTZ O O hb2<|ac<|rx O O<|ac<|aS O hb2 (v:=.bool (decide<|n<=16)) O (asZ (.bool<|decide<|n<=16) O<|aE<|gv1 hrg<|hQ _ h)
 exact gFZ O O hb2 O<|ac<|aY O hb2 (v:=.bool false) O<|asZ (.bool false) O<|aE<|gv1 hrg<|hQ _ h
theorem oQ {f:GFormula} {i:Int} {Q:Option Int->Prop} (h:iD f i Q) (hQ:∀r1,Q r1->R (aW 41 r1) S) :
  Ctr prog 101 [am f,iZ i] S R:=by
 refine aG func101 rfl ntmps101 results101 krZ (λrg hrg=>?_)
 refine ah<|wZ rg<|bA (v:=am f) O O (kk:=3) O dZ (λg1=>asZ .niface O<|aU<|ac<|aF bQ O<|ac<|af (aZ 2 O) eu fv O O (v:=eL aV f.V) O<|mvZ (iZ i) O<|tkZ h (λhg h=>ac<|a9 du eU dZ (λ_=>O) O O hg<|ac<|cz eU dZ uj O O (v:=aV (at' f.V i)) O<|wZ rg<|aT eJ kT (kk:=3) O (λg2=>ac<|ay (aZ 5 O) eU dZ O (w:=aV (at' f.V i)) O O O (v:=aV (at' f.V i)) O aQ<|nZ<|qZ<|jgZ (γ:=Nat×Nat) h (λy=>a_ [(1,iZ i),(2,.ptr rg 2 y.2.1 0 0),(5,.ptr rg 5 y.2.2 0 0),(20,.bool y.1)]) (λy=>stL S rg [(2,.arr 3 [am f],y.2.1),(5,.arr 3 [aV (at' f.V i)],y.2.2)]) (λy h=>?_) (λ_ h=>?_))))
 ·obtain⟨x,⟨g3,g4⟩⟩:=y
  refine cZ h O (λhb h=>?_) (λhb h=>?_)
  ·exact ah<|ac<|cp (by rw[gQ];trivial) (v:=iZ 7) O<|asZ (.iface 41<|iZ 7) O<|aE<|gv1 hrg<|hQ _ h
  refine kZ<|qZ<|ah<|ac<|aF jH O<|ac<|af (aZ 5 O) sz3 ag3 O O (v:=iZ ((at' f.V i).D)) O (ac<|aF dA O<|ac<|af (aZ 5 O) ep ig O O (v:=bv ((at' f.V i).M)) O (ac<|aK bK O<|ac<|clZ O<|oR h λr h=>ac<|fQ O<|nZ<|cZ h O (λhb1 h=>?_) (λhb1 h=>?_)))
  ·exact ah<|ac<|cp (by rw[gQ];trivial) (v:=iZ 11) O<|asZ (.iface 41<|iZ 11) O<|aE<|gv1 hrg<|hQ _ h
  refine kZ<|qZ<|ah<|ac<|aF dA O<|ac<|af (aZ 5 O) ep ig O O (v:=bv ((at' f.V i).M)) O (ac<|aK bK O<|mvZ (iZ 0) O<|nZ<|bZ<|lgZ h (g3,g4) (λy=>a_ [(1,iZ i),(2,.ptr rg 2 y.2.1 0 0),(5,.ptr rg 5 y.2.2 0 0),(31,bv ((at' f.V i).M)),(32,iZ (((at' f.V i).M).length:Int)),(33,iZ y.1)]) (λy=>stL S rg [(2,.arr 3 [am f],y.2.1),(5,.arr 3 [aV (at' f.V i)],y.2.2)]) (canon (aN<|fZ<|fZ<|fn)<|sc O<|sc O<|sn) (λy _ h=>?_))
  obtain⟨x1,⟨g5,g6⟩⟩:=y
  refine ah<|ac<|bi O O<|nZ<|qZ<|cZ h O (λhb2 h=>?_) (λhb2 h=>?_)
  ·refine kZ<|qZ<|bZ<|ah<|tkZ h (λhg1 h=>ac<|a9 bK sz3 dZ (λ_=>O) O O hg1<|ac<|aP sz3 ag3 O O (v:=iZ (at' ((at' f.V i).M) x1)) O (asZ (iZ<|at' ((at' f.V i).M) x1) O<|nZ<|jgZ (γ:=Nat×Nat) h (λy=>a_ [(1,iZ i),(2,.ptr rg 2 y.2.1 0 0),(5,.ptr rg 5 y.2.2 0 0),(31,bv ((at' f.V i).M)),(32,iZ (((at' f.V i).M).length:Int)),(33,iZ x1),(46,.bool y.1)]) (λy=>stL S rg [(2,.arr 3 [am f],y.2.1),(5,.arr 3 [aV (at' f.V i)],y.2.2)]) (λy h=>?_) (λ_ h=>?_)))
   ·obtain⟨x2,⟨g7,g8⟩⟩:=y
    refine cZ h O (λhb3 h=>?_) (λhb3 h=>?_)
    ·exact ah<|ac<|cp (by rw[gQ];trivial) (v:=iZ 10) O<|asZ (.iface 41<|iZ 10) O<|aE<|gv1 hrg<|hQ _ h
    exact kZ<|rZ<|tkZ h (λhg2 h=>ac<|aC O O hg2<|mvZ (iZ<|x1+1) O<|nZ<|⟨((x1+1),(g7,g8)),(canon (aN<|fZ<|fZ<|fn)<|sc O<|sc O<|sn),h⟩)
   refine rZ<|mvZ (iZ<|at' ((at' f.V i).M) x1) O<|ac<|bi O O<|mvZ (.bool<|decide<|(at' ((at' f.V i).M) x1)<0) O (gfZ h O O (λhb4 h=>?_) (λhb4 h=>?_))
   ·exact mvZ (iZ<|at' ((at' f.V i).M) x1) O<|gTZ O O hb4<|ac<|aF b8 O<|gTZ O O hb4<|ac<|af (aZ 2 O) sz3 ag3 O O (v:=iZ f.A) O<|gTZ O O hb4<|mvZ (iZ i) O<|gTZ O O hb4<|tkZ h (λhg3 h=>ac<|aC O O hg3<|gTZ O O hb4<|ac<|fo O O<|ac<|aY O hb4 (v:=.bool (decide<|(f.A+i)<=(at' ((at' f.V i).M) x1))) O (nZ<|⟨((decide<|(f.A+i)<=(at' ((at' f.V i).M) x1)),(g5,g6)),(canon (aN<|fZ<|fZ<|fZ<|fn)<|sc O<|sc O<|sn),h⟩))
   exact gFZ O O hb4 O<|gFZ O O hb4 O<|gFZ O O hb4 O<|gFZ O O hb4 O<|gFZ O O hb4 O<|ac<|aS O hb4 (v:=.bool true) O<|nZ<|⟨(true,(g5,g6)),(canon (aN<|fZ<|fZ<|fZ<|fn)<|sc O<|sc O<|sn),h⟩
  refine xsZ<|qZ<|ah<|ac<|aF jH O<|ac<|af (aZ 5 O) sz3 ag3 O O (v:=iZ ((at' f.V i).D)) O (nZ<|bZ<|ah<|ac<|bJ O O<|asZ (.bool<|(at' f.V i).D == 0) O<|nZ<|cZ h O (λhb5 h=>?_) (λhb5 h=>?_))
  ·refine jnZ h (λy=>a_ [(64,.bool y)]) (λy=>stL S rg []) (λx3 h=>?_) (λ_ h=>?_)
   ·refine cZ h O (λhb6 h=>?_) (λhb6 h=>?_)
    ·exact ah<|ac<|cp (by rw[gQ];trivial) (v:=iZ 3) O<|asZ (.iface 41<|iZ 3) O<|aE<|gv1 hrg<|hQ _ h
    exact kZ<|ah<|asZ .niface O<|aE<|gv1 hrg<|hQ _ h
   refine rZ<|ac<|aF gG O<|ac<|af (aZ 5 O) sz3 ag3 O O (v:=iZ ((at' f.V i).K)) O (ac<|fA O O<|mvZ (.bool<|(at' f.V i).K != 0) O<|gtZ h O O (λhb7 h=>?_) (λhb7 h=>?_))
   ·exact ac<|aF gG O<|gTZ O O hb7<|ac<|af (aZ 5 O) sz3 ag3 O O (v:=iZ ((at' f.V i).K)) O (gTZ O O hb7<|ac<|fA O O<|ac<|aS O hb7 (v:=.bool ((at' f.V i).K != 1)) O (nZ<|⟨((at' f.V i).K != 1),(canon (fZ<|fn)<|sn),h⟩))
   exact gFZ O O hb7 O<|gFZ O O hb7 O<|ac<|aY O hb7 (v:=.bool false) O<|nZ<|⟨false,(canon (fZ<|fn)<|sn),h⟩
  refine ah<|ac<|bJ O O<|asZ (.bool<|(at' f.V i).D == 4) O<|nZ<|cZ h O (λhb8 h=>?_) (λhb8 h=>?_)
  ·refine jnZ h (λy=>a_ [(78,.bool y)]) (λy=>stL S rg []) (λx4 h=>?_) (λ_ h=>?_)
   ·refine cZ h O (λhb9 h=>?_) (λhb9 h=>?_)
    ·exact ah<|ac<|cp (by rw[gQ];trivial) (v:=iZ 3) O<|asZ (.iface 41<|iZ 3) O<|aE<|gv1 hrg<|hQ _ h
    exact kZ<|ah<|asZ .niface O<|aE<|gv1 hrg<|hQ _ h
   refine rZ<|ac<|aF gG O<|ac<|af (aZ 5 O) sz3 ag3 O O (v:=iZ ((at' f.V i).K)) O (ac<|bi O O<|mvZ (.bool<|decide<|(at' f.V i).K<1) O<|gfZ h O O (λhb10 h=>?_) (λhb10 h=>?_))
   ·exact ac<|aF gG O<|gTZ O O hb10<|ac<|af (aZ 5 O) sz3 ag3 O O (v:=iZ ((at' f.V i).K)) O (gTZ O O hb10<|ac<|aF dA O<|gTZ O O hb10<|ac<|af (aZ 5 O) ep ig O O (v:=bv ((at' f.V i).M)) O (gTZ O O hb10<|ac<|aK bK O<|gTZ O O hb10<|ac<|cY O O<|ac<|aY O hb10 (v:=.bool (decide<|(((at' f.V i).M).length:Int)<(at' f.V i).K)) O (nZ<|⟨(decide<|(((at' f.V i).M).length:Int)<(at' f.V i).K),(canon (fZ<|fn)<|sn),h⟩)))
   exact gFZ O O hb10 O<|gFZ O O hb10 O<|gFZ O O hb10 O<|gFZ O O hb10 O<|gFZ O O hb10 O<|ac<|aS O hb10 (v:=.bool true) O<|nZ<|⟨true,(canon (fZ<|fn)<|sn),h⟩
  refine ah<|ac<|aF gG O<|ac<|af (aZ 5 O) sz3 ag3 O O (v:=iZ ((at' f.V i).K)) O (ac<|fA O O<|nZ<|cZ h O (λhb11 h=>?_) (λhb11 h=>?_))
  ·exact ah<|ac<|cp (by rw[gQ];trivial) (v:=iZ 2) O<|asZ (.iface 41<|iZ 2) O<|aE<|gv1 hrg<|hQ _ h
  exact kZ<|ah<|asZ .niface O<|aE<|gv1 hrg<|hQ _ h
 refine rZ<|ac<|aF jH O<|ac<|af (aZ 5 O) sz3 ag3 O O (v:=iZ ((at' f.V i).D)) O (ac<|bi O O<|mvZ (.bool<|decide<|(at' f.V i).D<0) O<|gfZ h O O (λhb12 h=>?_) (λhb12 h=>?_))
 ·exact ac<|aF jH O<|gTZ O O hb12<|ac<|af (aZ 5 O) sz3 ag3 O O (v:=iZ ((at' f.V i).D)) O (gTZ O O hb12<|ac<|cY O O<|ac<|aY O hb12 (v:=.bool (decide<|5<(at' f.V i).D)) O (nZ<|⟨((decide<|5<(at' f.V i).D),(g1,g2)),(canon (aN<|fn)<|sc O<|sc O<|sn),h⟩))
 exact gFZ O O hb12 O<|gFZ O O hb12 O<|ac<|aS O hb12 (v:=.bool true) O<|nZ<|⟨(true,(g1,g2)),(canon (aN<|fn)<|sc O<|sc O<|sn),h⟩
theorem rT {f:GFormula} {arg:Int} {Q:Bool->Prop} (h:lh f arg Q) (hQ:∀r1,Q r1->R (AV.bool r1) S) :
  Ctr prog 102 [am f,iZ arg] S R:=by
 refine aG func102 rfl ntmps102 results102 krZ (λrg hrg=>?_)
 refine ah<|wZ rg<|bA (v:=am f) O O (kk:=3) O dZ (λg1=>asZ (.bool false) O<|aU<|ac<|aF b8 O<|ac<|af (aZ 2 O) sz3 ag3 O O (v:=iZ f.A) O<|ac<|fo O O<|mvZ (.bool<|decide<|0<=f.A) O<|gtZ h O O (λhb h=>?_) (λhb h=>?_))
 ·refine mvZ (iZ arg) O<|gTZ O O hb<|ac<|fo O O<|ac<|aS O hb (v:=.bool (decide<|0<=arg)) O (mvZ (.bool<|decide<|0<=arg) O<|gtZ h O O (λhb1 h=>?_) (λhb1 h=>?_))
  ·refine mvZ (iZ arg) O<|gTZ O O hb1<|ac<|aF b8 O<|gTZ O O hb1<|ac<|af (aZ 2 O) sz3 ag3 O O (v:=iZ f.A) O<|gTZ O O hb1<|ac<|bi O O<|gTZ O O hb1<|mvZ (.bool<|decide<|arg<f.A) O<|gfZ h O O (λhb2 h=>?_) (λhb2 h=>?_)
   ·exact mvZ (iZ arg) O<|gTZ O O hb2<|ac<|aF b8 O<|gTZ O O hb2<|ac<|af (aZ 2 O) sz3 ag3 O O (v:=iZ f.A) O<|gTZ O O hb2<|tkZ h (λhg h=>ac<|bL O O hg<|gTZ O O hb2<|ac<|aF bQ O<|gTZ O O hb2<|ac<|af (aZ 2 O) eu fv O O (v:=eL aV f.V) O<|gTZ O O hb2<|ac<|aK du O<|gTZ O O hb2<|ac<|bi O O<|gTZ O O hb1<|ac<|aY O hb2 (v:=.bool (decide<|(arg-f.A)<(f.V.length:Int))) O (ac<|aS O hb1 (v:=.bool (decide<|(arg-f.A)<(f.V.length:Int))) O (asZ (.bool<|decide<|(arg-f.A)<(f.V.length:Int)) O (aE<|gv1 hrg<|hQ _ h))))
   exact gFZ O O hb2 O<|gFZ O O hb2 O<|gFZ O O hb2 O<|gFZ O O hb2 O<|gFZ O O hb2 O<|gFZ O O hb2 O<|gFZ O O hb2 O<|gTZ O O hb1<|ac<|aS O hb2 (v:=.bool true) O<|ac<|aS O hb1 (v:=.bool true) O<|asZ (.bool true) O<|aE<|gv1 hrg<|hQ _ h
  exact gFZ O O hb1 O<|gFZ O O hb1 O<|gFZ O O hb1 O<|gFZ O O hb1 O<|gUZ O O<|gUZ O O<|gUZ O O<|gUZ O O<|gUZ O O<|gUZ O O<|gUZ O O<|gUZ O O<|gFZ O O hb1 O<|ac<|aY O hb1 (v:=.bool false) O<|asZ (.bool false) O<|aE<|gv1 hrg<|hQ _ h
 exact gFZ O O hb O<|ac<|aY O hb (v:=.bool false) O<|mvZ (.bool false) O<|gFZ O O O O<|gFZ O O O O<|gFZ O O O O<|gFZ O O O O<|gFZ O O O O<|gUZ O O<|gUZ O O<|gUZ O O<|gUZ O O<|gUZ O O<|gUZ O O<|gUZ O O<|gUZ O O<|gFZ O O O O<|ac<|aY O O (v:=.bool false) O<|asZ (.bool false) O<|aE<|gv1 hrg<|hQ _ h
theorem eA {f:GFormula} {Q:Option Int->Prop} (h:dv f Q) (hQ:∀r1,Q r1->R (aW 41 r1) S) :
  Ctr prog 68 [am f] S R:=by
 refine aG func68 rfl ntmps68 results68 krZ (λrg hrg=>?_)
 refine ah<|wZ rg<|bA (v:=am f) O O (kk:=3) O dZ (λg1=>asZ .niface O<|nZ<|qZ<|jgZ (γ:=Nat) h (λy=>a_ [(1,.ptr rg 1 y.2 0 0),(12,.bool y.1)]) (λy=>stL S rg [(1,.arr 3 [am f],y.2)]) (λy h=>?_) (λ_ h=>?_))
 ·obtain⟨x,g2⟩:=y
  refine cZ h O (λhb h=>?_) (λhb h=>?_)
  ·exact ah<|ac<|cp (by rw[gQ];trivial) (v:=iZ 3) O<|asZ (.iface 41<|iZ 3) O<|aE<|gv1 hrg<|hQ _ h
  refine kZ<|qZ<|ah<|ac<|aF bQ O<|ac<|af (aZ 1 O) eu fv O O (v:=eL aV f.V) O<|ac<|aK du O<|ac<|cY O O<|nZ<|cZ h O (λhb1 h=>?_) (λhb1 h=>?_)
  ·exact ah<|ac<|cp (by rw[gQ];trivial) (v:=iZ 4) O<|asZ (.iface 41<|iZ 4) O<|aE<|gv1 hrg<|hQ _ h
  refine kZ<|qZ<|ah<|ac<|aF bQ O<|ac<|af (aZ 1 O) eu fv O O (v:=eL aV f.V) O<|ac<|aK du O<|mvZ (iZ 0) O<|nZ<|bZ<|lpZ h (λy=>a_ [(1,.ptr rg 1 g2 0 0),(21,iZ (f.V.length:Int)),(22,iZ y)]) (λy=>stL S rg [(1,.arr 3 [am f],g2)]) (canon (fZ<|fZ<|fZ<|fn)<|sc O<|sn) (λx1 _ h=>ah<|ac<|bi O O<|nZ<|qZ<|cZ h O (λhb2 h=>?_) (λhb2 h=>?_))
  ·refine kZ<|qZ<|bZ<|ah<|mvZ (iZ x1) O<|asZ (iZ x1) O<|aU<|ac<|ar (aZ 1 O) ck dZ fm O O (v:=am f) O<|mvZ (iZ x1) O<|ac<|clZ O<|oQ h λe h=>asZ (aW 41 e) O<|aU<|mvZ (aW 41 e) O<|ac<|cH fX (E:=41) O O O<|nZ<|cZ h O (λhb3 h=>?_) (λhb3 h=>?_)
   ·exact ah<|mvZ (aW 41 e) O<|asZ (aW 41 e) O<|aE<|gv1 hrg<|hQ _ h
   exact kZ<|rZ<|tkZ h (λhg h=>ac<|aC O O hg<|mvZ (iZ<|x1+1) O<|nZ<|⟨(x1+1),(canon (fZ<|fZ<|fZ<|fn)<|sc O<|sn),h⟩)
  refine xsZ<|qZ<|ah<|ac<|ar (aZ 1 O) ck dZ fm O O (v:=am f) O<|ac<|aF iF O<|ac<|af (aZ 1 O) sz3 ag3 O O (v:=iZ f.F) O<|ac<|clZ O<|rT h λr h=>ac<|fQ O<|nZ<|cZ h O (λhb4 h=>?_) (λhb4 h=>?_)
  ·exact ah<|ac<|cp (by rw[gQ];trivial) (v:=iZ 10) O<|asZ (.iface 41<|iZ 10) O<|aE<|gv1 hrg<|hQ _ h
  exact kZ<|ah<|asZ .niface O<|aE<|gv1 hrg<|hQ _ h
 refine rZ<|ac<|aF b8 O<|ac<|af (aZ 1 O) sz3 ag3 O O (v:=iZ f.A) O<|ac<|bi O O<|mvZ (.bool<|decide<|f.A<0) O<|gfZ h O O (λhb5 h=>?_) (λhb5 h=>?_)
 ·exact ac<|aF b8 O<|gTZ O O hb5<|ac<|af (aZ 1 O) sz3 ag3 O O (v:=iZ f.A) O<|gTZ O O hb5<|ac<|cY O O<|ac<|aY O hb5 (v:=.bool (decide<|24<f.A)) O (nZ<|⟨((decide<|24<f.A),g1),(canon (fZ<|fZ<|fn)<|sc O<|sn),h⟩)
 exact gFZ O O hb5 O<|gFZ O O hb5 O<|ac<|aS O hb5 (v:=.bool true) O<|nZ<|⟨(true,g1),(canon (fZ<|fZ<|fn)<|sc O<|sn),h⟩
theorem mO {f:GFormula} {Q:List Bool->Prop} (h:i2 f Q) (hQ:∀r1,Q r1->R (eL AV.bool r1) S) :
  Ctr prog 135 [am f] S R:=by
 refine aG func135 rfl ntmps135 results135 krZ (λrg hrg=>?_)
 refine ah<|wZ rg<|bA (v:=am f) O O (kk:=3) O dZ (λg1=>asZ .nil O<|aU<|ac<|aF b8 O<|ac<|af (aZ 1 O) sz3 ag3 O O (v:=iZ f.A) O<|ac<|aF bQ O<|ac<|af (aZ 1 O) eu fv O O (v:=eL aV f.V) O<|ac<|aK du O<|tkZ h (λhg h=>ac<|aC O O hg<|tkZ h (λhg1 h=>wZ rg<|fR jo C6 ok4 (enc:=AV.bool) (z':=false) yR (kk:=1) O O O hg1 (λg2=>asZ (.sl 1 rg 13 g2 0<|Int.toNat<|f.A+(f.V.length:Int)) O<|aU<|mvZ (.sl 1 rg 13 g2 0<|Int.toNat<|f.A+(f.V.length:Int)) O<|ac<|aF iF O<|ac<|af (aZ 1 O) sz3 ag3 O O (v:=iZ f.F) O<|tkZ h (λhi h=>ac<|bh jo sz4 dZ O O hi<|ac<|bM (aZ 13 O) sz4 dZ (x':=true) (λ_=>O) O O (bE hi lzZ) O O aQ<|nZ<|qZ<|ah<|ac<|aF bQ O<|ac<|af (aZ 1 O) eu fv O O (v:=eL aV f.V) O<|ac<|aK du O<|tkZ h (λhg2 h=>ac<|bL O O hg2<|asZ (iZ<|(f.V.length:Int)-1) O<|nZ<|bZ<|lpZ h (λy=>a_ [(1,.ptr rg 1 g1 0 0),(3,.sl 1 rg 13 g2 0 y.2.length),(4,iZ y.1)]) (λy=>stL S rg [(1,.arr 3 [am f],g1),(13,.arr 1 (List.map AV.bool y.2),g2)]) (canon (fZ<|fc (VW.slen lzZ)<|fZ<|fn)<|sc O<|sc O<|sn) (λy _ h=>?_)))))))
 obtain⟨i,mark⟩:=y
 refine qZ<|ah<|mvZ (iZ i) O<|ac<|fo O O<|nZ<|cZ h O (λhb h=>?_) (λhb h=>?_)
 ·refine kZ<|qZ<|bZ<|ah<|mvZ (.sl 1 rg 13 g2 0 mark.length) O<|ac<|aF b8 O<|ac<|af (aZ 1 O) sz3 ag3 O O (v:=iZ f.A) O<|mvZ (iZ i) O<|tkZ h (λhg3 h=>ac<|aC O O hg3<|tkZ h (λhi1 h=>ac<|bh jo sz4 dZ O O hi1<|ac<|bY (aZ 13 O) sz4 ag4 O (bE hi1 lzZ) O (v:=.bool (at' mark<|f.A+i)) O (nZ<|cZ h O (λhb1 h=>?_) (λhb1 h=>?_))))
  ·refine ah<|ac<|aF bQ O<|ac<|af (aZ 1 O) eu fv O O (v:=eL aV f.V) O<|mvZ (iZ i) O<|tkZ h (λhg4 h=>ac<|a9 du eU dZ (λ_=>O) O O hg4<|ac<|faZ dA O O<|ac<|aP ep ig O O (v:=bv ((at' f.V i).M)) O (ac<|aK bK O<|mvZ (iZ 0) O<|nZ<|bZ<|lpZ h (λy=>a_ [(1,.ptr rg 1 g1 0 0),(3,.sl 1 rg 13 g2 0 y.2.length),(4,iZ i),(38,bv ((at' f.V i).M)),(39,iZ (((at' f.V i).M).length:Int)),(40,iZ y.1)]) (λy=>stL S rg [(1,.arr 3 [am f],g1),(13,.arr 1 (List.map AV.bool y.2),g2)]) (canon (aN<|fZ<|fZ<|fn)<|sc O<|sc O<|sn) (λy _ h=>?_)))
   obtain⟨x,mark1⟩:=y
   refine ah<|ac<|bi O O<|nZ<|qZ<|cZ h O (λhb2 h=>?_) (λhb2 h=>?_)
   ·exact kZ<|qZ<|bZ<|ah<|tkZ h (λhg5 h=>ac<|a9 bK sz3 dZ (λ_=>O) O O hg5<|ac<|aP sz3 ag3 O O (v:=iZ (at' ((at' f.V i).M) x)) O (asZ (iZ<|at' ((at' f.V i).M) x) O<|nZ<|rZ<|mvZ (.sl 1 rg 13 g2 0 mark1.length) O<|mvZ (iZ<|at' ((at' f.V i).M) x) O<|tkZ h (λhi2 h=>ac<|bh jo sz4 dZ O O hi2<|ac<|bM (aZ 13 O) sz4 dZ (x':=true) (λ_=>O) O O (bE hi2 lzZ) O O aQ<|nZ<|rZ<|tkZ h (λhg6 h=>ac<|aC O O hg6<|mvZ (iZ<|x+1) O<|nZ<|⟨((x+1),(bu mark1 (at' ((at' f.V i).M) x) true)),(canon (fZ<|fc (VW.slen lzZ)<|aN<|fn)<|sc O<|sc O<|sn),h⟩))))
   exact xsZ<|rZ<|mvZ (iZ i) O<|tkZ h (λhg7 h=>ac<|bL O O hg7<|asZ (iZ<|i-1) O<|nZ<|⟨((i-1),mark1),(canon (fZ<|fZ<|fZ<|fn)<|sc O<|sc O<|sn),h⟩)
  exact kZ<|rZ<|mvZ (iZ i) O<|tkZ h (λhg8 h=>ac<|bL O O hg8<|asZ (iZ<|i-1) O<|nZ<|⟨((i-1),mark),(canon (fZ<|fZ<|fZ<|fn)<|sc O<|sc O<|sn),h⟩)
 exact xsZ<|ah<|mvZ (.sl 1 rg 13 g2 0 mark.length) O<|asZ (.sl 1 rg 13 g2 0 mark.length) O<|aE<|aB (v:=.sl 1 rg 13 g2 0 mark.length) O<|aJ<|br (k:=13) (xs:=List.map AV.bool mark) O (v':=eL AV.bool mark) (bg O)<|goZ hrg<|hQ _ h
theorem sX {f:GFormula} {Q:Int->Int->Option Int->Prop} (h:mh f Q) (hQ:∀r1 r2 r3,Q r1 r2 r3->R (.tuple [iZ r1,iZ r2,aW 41 r3]) S) :
  Ctr prog 105 [am f] S R:=by
 refine aG func105 rfl ntmps105 results105 krZ (λrg hrg=>?_)
 refine ah<|wZ rg<|bA (v:=am f) O O (kk:=3) O dZ (λg1=>asZ (iZ 0) O<|asZ (iZ 0) O<|asZ .niface O<|nZ<|qZ<|ah<|ac<|ar (aZ 1 O) ck dZ fm O O (v:=am f) O<|ac<|clZ O<|eA h λe h=>asZ (aW 41 e) O<|aU<|mvZ (aW 41 e) O<|ac<|cH fX (E:=41) O O O<|nZ<|cZ h O (λhb h=>?_) (λhb h=>?_))
 ·exact ah<|mvZ (aW 41 e) O<|asZ (iZ 0) O<|asZ (iZ 0) O<|asZ (aW 41 e) O<|aE<|aB (v:=iZ 0) O<|aB (v:=iZ 0) O<|aB (v:=aW 41 e) O<|aJ<|aO hrg (VW.tupL<|vZ<|vZ<|vZ<|vn)<|hQ _ _ _ h
 refine kZ<|qZ<|qZ ?_
 obtain⟨r,hc,h⟩:=h
 refine tkZ h (λhg h=>Vc.drawn' bG rg (gk [(1,pc (eL AV.bool r))]) krZ<|dL (E:=([(rg,1)],[])) O O zSm (cfn) (ar (aZ 1 O) ck dZ fm O O (v:=am f) O<|dC (vs:=[am f]) O (vZ<|vn) (λ_=>mO hc (λ_ hr=>⟨by rw[hr],rfl⟩)) O<|dP O O<|aF b8 O<|dL (E:=([(rg,1)],[])) O O zSm (cfa zAp<|cfn) (af (aZ 1 O) sz3 ag3 O O (v:=iZ f.A) O<|dP O O<|jB jo sz4 dZ (λ_=>O) O (l:=f.A) (h:=(r.length:Int)) O O hg<|dP O O<|aK jo O<|dP O O<|aD (v:=iZ 0) O<|dN<|bZ<|lpZ h (λy=>a_ [(1,.ptr rg 1 g1 0 0),(2,iZ y.1),(3,iZ y.2.1),(17,eL AV.bool (cg r f.A (r.length:Int))),(18,iZ ((cg r f.A (r.length:Int)).length:Int)),(19,iZ y.2.2)]) (λy=>stL S rg [(1,.arr 3 [am f],g1)]) (canon (aN<|fZ<|fZ<|fn)<|sc O<|sn) (λy _ h=>?_))))
 obtain⟨nodes,args,x⟩:=y
 refine ah<|ac<|bi O O<|nZ<|qZ<|cZ h O (λhb1 h=>?_) (λhb1 h=>?_)
 ·refine kZ<|qZ<|bZ<|ah<|mvZ (iZ x) O<|tkZ h (λhg1 h=>ac<|a9 jo sz4 dZ (λ_=>O) O O hg1<|ac<|aP sz4 ag4 O O (v:=.bool (at' (cg r f.A (r.length:Int)) x)) O (asZ (iZ x) O<|asZ (.bool<|at' (cg r f.A (r.length:Int)) x) O<|aU<|mvZ (.bool<|at' (cg r f.A (r.length:Int)) x) O<|nZ<|cZ h O (λhb2 h=>?_) (λhb2 h=>?_)))
  ·exact ah<|mvZ (iZ nodes) O<|tkZ h (λhg2 h=>ac<|aC O O hg2<|asZ (iZ<|nodes+1) O<|nZ<|rZ<|mvZ (iZ args) O<|ac<|aF bQ O<|ac<|af (aZ 1 O) eu fv O O (v:=eL aV f.V) O<|mvZ (iZ x) O<|tkZ h (λhg3 h=>ac<|a9 du eU dZ (λ_=>O) O O hg3<|ac<|faZ dA O O<|ac<|aP ep ig O O (v:=bv ((at' f.V x).M)) O (ac<|aK bK O<|tkZ h (λhg4 h=>ac<|aC O O hg4<|stZ h (λargs1 hs h=>wZ rg<|a8 (v:=iZ args1) (by subst hs;rfl)<|nZ<|rZ<|tkZ h (λhg5 h=>ac<|aC O O hg5<|mvZ (iZ<|x+1) O<|nZ<|⟨((nodes+1),args1,(x+1)),(canon (aN<|fZ<|fZ<|fn)<|sc O<|sn),h⟩))))))
  exact kZ<|rZ<|tkZ h (λhg6 h=>ac<|aC O O hg6<|mvZ (iZ<|x+1) O<|nZ<|⟨(nodes,args,(x+1)),(canon (aN<|fZ<|fZ<|fn)<|sc O<|sn),h⟩)
 exact xsZ<|ah<|mvZ (iZ nodes) O<|mvZ (iZ args) O<|asZ (iZ nodes) O<|asZ (iZ args) O<|asZ .niface O<|aE<|aB (v:=iZ nodes) O<|aB (v:=iZ args) O<|aB (v:=.niface) O<|aJ<|aO hrg (VW.tupL<|vZ<|vZ<|vZ<|vn)<|hQ _ _ _ h
theorem sW {f:GFormula} {Q:GFormula->Option Int->Prop} (h:mg f Q) (hQ:∀r1 r2,Q r1 r2->R (.tuple [am r1,aW 41 r2]) S) :
  Ctr prog 107 [am f] S R:=by
 refine aG func107 rfl ntmps107 results107 krZ (λrg hrg=>?_)
 refine ah<|wZ rg<|bA (v:=am f) O O (kk:=3) O dZ (λg1=>wZ rg<|aT eY ni (kk:=3) O (λg2=>asZ .niface O<|nZ<|qZ<|ah<|ac<|ar (aZ 1 O) ck dZ fm O O (v:=am f) O<|ac<|clZ O<|eA h λe h=>asZ (aW 41 e) O<|aU<|mvZ (aW 41 e) O<|ac<|cH fX (E:=41) O O O<|nZ<|cZ h O (λhb h=>?_) (λhb h=>?_)))
 ·exact ah<|ac<|bC sy eY qq qd ck (ps:=[]) O O (v:=.agg [iZ 0,.nil,iZ 0]) O<|mvZ (aW 41 e) O<|ac<|ay (aZ 2 O) ck dZ O (w:=.agg [iZ 0,.nil,iZ 0]) O O O (v:=.agg [iZ 0,.nil,iZ 0]) O aQ<|asZ (aW 41 e) O<|aE<|be (aZ 2 O) ck dZ fm O O (v:=.agg [iZ 0,.nil,iZ 0]) O<|aB (v:=aW 41 e) O<|aJ<|aO hrg (VW.tupL<|vl' (VW.aggL<|vZ<|vl' (VW.nilL)<|vZ<|vn)<|vZ<|vn)<|hQ _ _ h
 refine kZ<|ah<|ac<|aF b8 O<|ac<|af (aZ 1 O) sz3 ag3 O O (v:=iZ f.A) O<|ac<|bC sy eY qq qd ck (ps:=[(0,iZ f.A)]) O O (v:=.agg [iZ f.A,.nil,iZ 0]) O<|wZ rg<|aT eY ni (kk:=3) O (λg3=>ac<|ay (aZ 5 O) ck dZ O (w:=.agg [iZ f.A,.nil,iZ 0]) O O O (v:=.agg [iZ f.A,.nil,iZ 0]) O aQ<|aU<|ac<|aF b8 O<|ac<|af (aZ 1 O) sz3 ag3 O O (v:=iZ f.A) O<|ac<|aF bQ O<|ac<|af (aZ 1 O) eu fv O O (v:=eL aV f.V) O<|ac<|aK du O<|tkZ h (λhg h=>ac<|aC O O hg<|tkZ h (λhg1 h=>wZ rg<|fR bK nt ok3 (enc:=iZ) (z':=0) fD (kk:=1) O O O hg1 (λg4=>asZ (.sl 1 rg 29 g4 0<|Int.toNat<|f.A+(f.V.length:Int)) O<|nZ<|qZ<|ah<|ac<|aF b8 O<|ac<|af (aZ 1 O) sz3 ag3 O O (v:=iZ f.A) O<|mvZ (iZ 0) O<|nZ<|bZ<|lpZ h (λy=>a_ [(1,.ptr rg 1 g1 0 0),(2,.ptr rg 2 g2 0 0),(5,.ptr rg 5 g3 0 0),(6,.sl 1 rg 29 g4 0 y.2.length),(31,iZ f.A),(32,iZ y.1)]) (λy=>stL S rg [(1,.arr 3 [am f],g1),(2,.arr 3 [.agg [iZ 0,.nil,iZ 0]],g2),(5,.arr 3 [.agg [iZ f.A,.nil,iZ 0]],g3),(29,.arr 1 (List.map iZ y.2),g4)]) (canon (fZ<|fZ<|fZ<|fc (VW.slen lzZ)<|fZ<|fZ<|fn)<|ct O O O O<|sn) (λy _ h=>?_)))))
 obtain⟨x,to⟩:=y
 refine ah<|ac<|bi O O<|nZ<|qZ<|cZ h O (λhb1 h=>?_) (λhb1 h=>?_)
 ·exact kZ<|qZ<|bZ<|ah<|mvZ (iZ x) O<|asZ (iZ x) O<|nZ<|rZ<|mvZ (.sl 1 rg 29 g4 0 to.length) O<|mvZ (iZ x) O<|mvZ (iZ x) O<|tkZ h (λhi h=>ac<|bh bK sz3 dZ O O hi<|ac<|bM (aZ 29 O) sz3 dZ (x':=x) (λ_=>O) O O (bE hi lzZ) O O aQ<|nZ<|rZ<|tkZ h (λhg2 h=>ac<|aC O O hg2<|mvZ (iZ<|x+1) O<|nZ<|⟨((x+1),(bu to x x)),(canon (fZ<|fZ<|fZ<|fc (VW.slen lzZ)<|fZ<|fZ<|fn)<|ct O O O O<|sn),h⟩))
 refine xsZ<|qZ<|qZ ?_
 obtain⟨r,hc,h⟩:=h
 refine tkZ h (λhg3 h=>Vc.drawn' bG rg (gk [(1,pc (eL AV.bool r))]) krZ<|dL (E:=([(rg,1)],[])) O O zSm (cfn) (ar (aZ 1 O) ck dZ fm O O (v:=am f) O<|dC (vs:=[am f]) O (vZ<|vn) (λ_=>mO hc (λ_ hr=>⟨by rw[hr],rfl⟩)) O<|dP O O<|aF b8 O<|dL (E:=([(rg,1)],[])) O O zSm (cfa zAp<|cfn) (af (aZ 1 O) sz3 ag3 O O (v:=iZ f.A) O<|dP O O<|jB jo sz4 dZ (λ_=>O) O (l:=f.A) (h:=(r.length:Int)) O O hg3<|dP O O<|aK jo O<|dP O O<|aD (v:=iZ 0) O<|dN<|bZ<|Vc.matB 5 1 96 3 (b:=λg5=>.agg [iZ f.A,.sl 3 rg 96 g5 0 0,iZ 0]) O O dZ dZ O (λg5=>lgZ h g5 (λy=>a_ [(1,.ptr rg 1 g1 0 0),(2,.ptr rg 2 g2 0 0),(5,.ptr rg 5 g3 0 0),(6,.sl 1 rg 29 g4 0 y.1.2.1.length),(44,eL AV.bool (cg r f.A (r.length:Int))),(45,iZ ((cg r f.A (r.length:Int)).length:Int)),(46,iZ y.1.1)]) (λy=>stL S rg [(1,.arr 3 [am f],g1),(2,.arr 3 [.agg [iZ 0,.nil,iZ 0]],g2),(5,.arr 3 [.agg [iZ f.A,.sl 3 rg 96 y.2 0 y.1.2.2.length,iZ 0]],g3),(29,.arr 1 (List.map iZ y.1.2.1),g4),(96,.arr 3 (List.map aV y.1.2.2),y.2)]) (EWk.trans (EWk.ow (k:=5) (o':=.arr 3 [.agg [iZ f.A,.sl 3 rg 96 g5 0 ([].length),iZ 0]]) O<|OW.one<|VWL.vwc<|vZ<|vl' (VW.slen lzZ)<|vZ<|vn)<|canon (aN<|fZ<|fZ<|fZ<|fn)<|ct O O O O<|sc O<|sn) (λy _ h=>?_)))))
 obtain⟨⟨x1,to1,x2⟩,g6⟩:=y
 refine ah<|ac<|bi O O<|nZ<|qZ<|cZ h O (λhb2 h=>?_) (λhb2 h=>?_)
 ·refine kZ<|qZ<|bZ<|ah<|mvZ (iZ x1) O<|tkZ h (λhg4 h=>ac<|a9 jo sz4 dZ (λ_=>O) O O hg4<|ac<|aP sz4 ag4 O O (v:=.bool (at' (cg r f.A (r.length:Int)) x1)) O (asZ (iZ x1) O<|asZ (.bool<|at' (cg r f.A (r.length:Int)) x1) O<|nZ<|qZ<|ah<|mvZ (.bool<|at' (cg r f.A (r.length:Int)) x1) O<|ac<|fQ O<|nZ<|cZ h O (λhb3 h=>?_) (λhb3 h=>?_)))
  ·exact xsZ<|rZ<|tkZ h (λhg5 h=>ac<|aC O O hg5<|mvZ (iZ<|x1+1) O<|nZ<|⟨(((x1+1),to1,x2),g6),(canon (aN<|fZ<|fZ<|fZ<|fn)<|ct O O O O<|sc O<|sn),h⟩)
  refine kZ<|ah<|ac<|aF bQ O<|ac<|af (aZ 1 O) eu fv O O (v:=eL aV f.V) O<|mvZ (iZ x1) O<|tkZ h (λhg6 h=>ac<|a9 du eU dZ (λ_=>O) O O hg6<|ac<|cz eU dZ uj O O (v:=aV (at' f.V x1)) O<|wZ rg<|aT eJ kT (kk:=3) O (λg7=>ac<|ay (aZ 10 O) eU dZ O (w:=aV (at' f.V x1)) O O O (v:=aV (at' f.V x1)) O aQ<|aU<|ac<|aF jH O<|ac<|af (aZ 10 O) sz3 ag3 O O (v:=iZ ((at' f.V x1).D)) O (ac<|aF gG O<|ac<|af (aZ 10 O) sz3 ag3 O O (v:=iZ ((at' f.V x1).K)) O (ac<|bC uH eJ tN tv eU (ps:=[(0,iZ ((at' f.V x1).D)),(1,iZ ((at' f.V x1).K))]) O O (v:=.agg [iZ ((at' f.V x1).D),iZ ((at' f.V x1).K),.nil]) O (wZ rg<|aT eJ kT (kk:=3) O (λg8=>ac<|ay (aZ 11 O) eU dZ O (w:=.agg [iZ ((at' f.V x1).D),iZ ((at' f.V x1).K),.nil]) O O O (v:=.agg [iZ ((at' f.V x1).D),iZ ((at' f.V x1).K),.nil]) O aQ (nZ<|qZ<|ah<|ac<|aF dA O<|ac<|af (aZ 10 O) ep ig O O (v:=bv ((at' f.V x1).M)) O (ac<|aK bK O<|mvZ (iZ 0) O<|nZ<|bZ<|Vc.matB 11 2 77 1 (b:=λg9=>.agg [iZ ((at' f.V x1).D),iZ ((at' f.V x1).K),.sl 1 rg 77 g9 0 0]) O O dZ dZ O (λg9=>?_)))))))))
  refine lgZ h g9 (λy=>a_ [(1,.ptr rg 1 g1 0 0),(2,.ptr rg 2 g2 0 0),(5,.ptr rg 5 g3 0 0),(6,.sl 1 rg 29 g4 0 to1.length),(8,iZ x1),(11,.ptr rg 11 g8 0 0),(44,eL AV.bool (cg r f.A (r.length:Int))),(45,iZ ((cg r f.A (r.length:Int)).length:Int)),(46,iZ x1),(64,bv ((at' f.V x1).M)),(65,iZ (((at' f.V x1).M).length:Int)),(66,iZ y.1.1)]) (λy=>stL S rg [(1,.arr 3 [am f],g1),(2,.arr 3 [.agg [iZ 0,.nil,iZ 0]],g2),(5,.arr 3 [.agg [iZ f.A,.sl 3 rg 96 g6 0 x2.length,iZ 0]],g3),(11,.arr 3 [.agg [iZ ((at' f.V x1).D),iZ ((at' f.V x1).K),.sl 1 rg 77 y.2 0 y.1.2.length]],g8),(29,.arr 1 (List.map iZ to1),g4),(77,.arr 1 (List.map iZ y.1.2),y.2),(96,.arr 3 (List.map aV x2),g6)]) (EWk.trans (EWk.ow (k:=11) (o':=.arr 3 [.agg [iZ ((at' f.V x1).D),iZ ((at' f.V x1).K),.sl 1 rg 77 g9 0 ([].length)]]) O (OW.one<|VWL.vwc<|vZ<|vZ<|vl' (VW.slen lzZ)<|vn)) (canon (aN<|aN<|aN<|fn)<|ct O O O O<|sc O<|sc O<|sc O<|sn)) (λy _ h=>?_)
  obtain⟨⟨x3,x4⟩,g10⟩:=y
  refine ah<|ac<|bi O O<|nZ<|qZ<|cZ h O (λhb4 h=>?_) (λhb4 h=>?_)
  ·refine kZ<|qZ<|bZ<|ah<|tkZ h (λhg7 h=>ac<|a9 bK sz3 dZ (λ_=>O) O O hg7<|ac<|aP sz3 ag3 O O (v:=iZ (at' ((at' f.V x1).M) x3)) O (asZ (iZ<|at' ((at' f.V x1).M) x3) O<|nZ<|tkZ h (λhi1 h=>tkZ h (λhg8 h=>Vc.drawn' bG rg (λ_=>gN) krZ<|dP O O<|aF dA O<|dL (E:=([(rg,11)],[])) O O zSm (cfn) (af (aZ 11 O) ep ig O O (v:=.sl 1 rg 77 g10 0 x4.length) O<|dP O O<|aD (v:=.sl 1 rg 29 g4 0 to1.length) O<|dP O O<|aD (v:=iZ (at' ((at' f.V x1).M) x3)) O (dP O O<|bh bK sz3 dZ O O hi1<|dL (E:=([(rg,29)],[])) O O zSm (cfa zAp<|cfn) (bY (aZ 29 O) sz3 ag3 O (bE hi1 lzZ) O (v:=iZ (at' to1<|at' ((at' f.V x1).M) x3)) O (dL (E:=([],[(rg,76)])) O O zSm (cfo krZ<|cfa zAp<|cfn) (bq bK ok3 fD (es:=[iZ (at' to1<|at' ((at' f.V x1).M) x3)]) O (kk:=1) O O O O O O (λg11=>dL (E:=([(rg,76)],[(rg,77)])) O O zSm (cfo krZ<|cfo krZ<|cfo krZ<|cfn) (cF bK nt ok3 fD (es:=x4) (xs:=[(at' to1<|at' ((at' f.V x1).M) x3)]) (enc:=iZ) (aZ 77 O) lzZ (bI (aZ 76 O) lzZ) (kk:=1) O O (λ_=>O) (λ_=>O) hg8 O (λ_=>aQ) (λg12=>dP O O<|aF dA O ?_))))))))))))
   exact dL (E:=([],[(rg,11)])) O O zSm (cfo krZ<|cfo krZ<|cfo krZ<|cfo krZ<|cfn) (ay (aZ 11 O) ep dZ O (w:=.sl 1 rg 77 g12 0 ((x4++[(at' to1<|at' ((at' f.V x1).M) x3)]).length)) O O O (v:=.agg [iZ ((at' f.V x1).D),iZ ((at' f.V x1).K),.sl 1 rg 77 g12 0 ((x4++[(at' to1<|at' ((at' f.V x1).M) x3)]).length)]) O aQ (dN<|rZ<|tkZ h (λhg9 h=>ac<|aC O O hg9<|mvZ (iZ<|x3+1) O<|nZ<|⟨(((x3+1),(x4++[(at' to1<|at' ((at' f.V x1).M) x3)])),g12),(canon (aN<|aN<|aN<|fn)<|ct O O O O<|sc O<|sc O<|sc O<|sn),h⟩)))
  refine xsZ<|ah<|mvZ (.sl 1 rg 29 g4 0 to1.length) O<|ac<|aF b8 O<|ac<|af (aZ 1 O) sz3 ag3 O O (v:=iZ f.A) O<|mvZ (iZ x1) O<|tkZ h (λhg10 h=>ac<|aC O O hg10<|ac<|aF b8 O<|ac<|af (aZ 1 O) sz3 ag3 O O (v:=iZ f.A) O<|ac<|aF bQ O<|ac<|af (aZ 5 O) eu fv O O (v:=.sl 3 rg 96 g6 0 x2.length) O<|ac<|fG du O<|tkZ h (λhg11 h=>ac<|aC O O hg11<|tkZ h (λhi2 h=>ac<|bh bK sz3 dZ O O hi2<|ac<|bM (aZ 29 O) sz3 dZ (x':=(f.A+(x2.length:Int))) (λ_=>O) O O (bE hi2 lzZ) O O aQ<|nZ<|rZ<|ac<|aF bQ O<|ac<|af (aZ 5 O) eu fv O O (v:=.sl 3 rg 96 g6 0 x2.length) O<|ac<|ar (aZ 11 O) eU dZ uj O O (v:=.agg [iZ ((at' f.V x1).D),iZ ((at' f.V x1).K),.sl 1 rg 77 g10 0 x4.length]) O ?_)))
  refine eS (bt (k:=77) (xs:=List.map iZ x4) O (es:=[(1,.ptr rg 1 g1 0 0),(2,.ptr rg 2 g2 0 0),(5,.ptr rg 5 g3 0 0),(6,.sl 1 rg 29 g4 0 to1.length),(44,eL AV.bool (cg r f.A (r.length:Int))),(45,iZ ((cg r f.A (r.length:Int)).length:Int)),(46,iZ x1),(93,.sl 3 rg 96 g6 0 x2.length),(94,.agg [iZ ((at' f.V x1).D),iZ ((at' f.V x1).K),bv x4])]) (fZ<|fZ<|fZ<|fc (ft O)<|fZ<|fZ<|fZ<|fc (ft O)<|fc (VW.aggL<|vZ<|vZ<|vl' (bg O)<|vn)<|fn) (m:=[(1,.arr 3 [am f],g1),(2,.arr 3 [.agg [iZ 0,.nil,iZ 0]],g2),(5,.arr 3 [.agg [iZ f.A,.sl 3 rg 96 g6 0 x2.length,iZ 0]],g3),(29,.arr 1 (List.map iZ<|bu to1 (f.A+x1)<|f.A+(x2.length:Int)),g4),(96,.arr 3 (List.map aV x2),g6)]) (ct O O O O<|sc O<|sn)) (wZ rg<|bq du kT eJ (es:=[.agg [iZ ((at' f.V x1).D),iZ ((at' f.V x1).K),bv x4]]) O (kk:=3) O O O O O O (λg14=>tkZ h (λhg12 h=>wZ rg<|cF du xI kT eJ (es:=x2) (xs:=[(⟨(at' f.V x1).D,(at' f.V x1).K,x4⟩:GNode)]) (enc:=aV) (aZ 96 O) lzZ (bI (aZ 95 O) lzZ) (kk:=3) O O (λ_=>O) (λ_=>O) hg12 O (λ_=>aQ) (λg15=>ac<|aF bQ O ?_))))
  exact ac<|ay (aZ 5 O) eu dZ O (w:=.sl 3 rg 96 g15 0 ((x2++[(⟨(at' f.V x1).D,(at' f.V x1).K,x4⟩:GNode)]).length)) O O O (v:=.agg [iZ f.A,.sl 3 rg 96 g15 0 ((x2++[(⟨(at' f.V x1).D,(at' f.V x1).K,x4⟩:GNode)]).length),iZ 0]) O aQ (nZ<|rZ<|tkZ h (λhg13 h=>ac<|aC O O hg13<|mvZ (iZ<|x1+1) O<|nZ<|⟨(((x1+1),(bu to1 (f.A+x1)<|f.A+(x2.length:Int)),(x2++[(⟨(at' f.V x1).D,(at' f.V x1).K,x4⟩:GNode)])),g15),(canon (fZ<|fZ<|fZ<|fc (VW.slen lzZ)<|fZ<|fZ<|fZ<|fn)<|ct O O O O<|sc O<|sn),h⟩))
 exact xsZ<|ah<|mvZ (.sl 1 rg 29 g4 0 to1.length) O<|ac<|aF iF O<|ac<|af (aZ 1 O) sz3 ag3 O O (v:=iZ f.F) O<|tkZ h (λhi3 h=>ac<|bh bK sz3 dZ O O hi3<|ac<|bY (aZ 29 O) sz3 ag3 O (bE hi3 lzZ) O (v:=iZ (at' to1 f.F)) O<|ac<|aF iF O<|ac<|ay (aZ 5 O) sz3 dZ O (w:=iZ (at' to1 f.F)) O O O (v:=.agg [iZ f.A,.sl 3 rg 96 g6 0 x2.length,iZ (at' to1 f.F)]) O aQ<|aU<|ac<|ar (aZ 5 O) ck dZ fm O O (v:=.agg [iZ f.A,.sl 3 rg 96 g6 0 x2.length,iZ (at' to1 f.F)]) O<|ac<|ay (aZ 2 O) ck dZ O (w:=.agg [iZ f.A,.sl 3 rg 96 g6 0 x2.length,iZ (at' to1 f.F)]) O O O (v:=.agg [iZ f.A,.sl 3 rg 96 g6 0 x2.length,iZ (at' to1 f.F)]) O aQ<|asZ .niface O<|aE<|be (aZ 2 O) ck dZ fm O O (v:=.agg [iZ f.A,.sl 3 rg 96 g6 0 x2.length,iZ (at' to1 f.F)]) O<|aB (v:=.niface) O<|aJ<|br (k:=96) (xs:=List.map aV x2) O (v':=.tuple [.agg [iZ f.A,eL aV x2,iZ (at' to1 f.F)],.niface]) (VW.tupL<|vl' (VW.aggL<|vZ<|vl' (bg O)<|vZ<|vn)<|vZ<|vn)<|aO hrg (VW.tupL<|vZ<|vZ<|vn)<|hQ _ _ h)
theorem rR {f:GFormula} {failed:Int} {Q:Option Int->Prop} (h:kY f failed Q) (hQ:∀r1,Q r1->R (aW 41 r1) S) :
  Ctr prog 119 [am f,iZ failed] S R:=by
 refine aG func119 rfl ntmps119 results119 krZ (λrg hrg=>?_)
 refine ah<|wZ rg<|bA (v:=am f) O O (kk:=3) O dZ (λg1=>asZ .niface O<|nZ<|qZ<|ah<|ac<|ar (aZ 2 O) ck dZ fm O O (v:=am f) O<|ac<|clZ O<|eA h λe h=>asZ (aW 41 e) O<|aU<|mvZ (aW 41 e) O<|ac<|cH fX (E:=41) O O O<|nZ<|cZ h O (λhb h=>?_) (λhb h=>?_))
 ·exact ah<|mvZ (aW 41 e) O<|asZ (aW 41 e) O<|aE<|gv1 hrg<|hQ _ h
 refine kZ<|qZ<|jnZ h (λy=>a_ [(19,.bool y)]) (λy=>stL S rg []) (λx h=>?_) (λ_ h=>?_)
 ·refine cZ h O (λhb1 h=>?_) (λhb1 h=>?_)
  ·exact ah<|ac<|cp (by rw[gQ];trivial) (v:=iZ 3) O<|asZ (.iface 41<|iZ 3) O<|aE<|gv1 hrg<|hQ _ h
  exact kZ<|ah<|asZ .niface O<|aE<|gv1 hrg<|hQ _ h
 refine rZ<|mvZ (iZ failed) O<|ac<|bi O O<|mvZ (.bool<|decide<|failed<0) O<|gfZ h O O (λhb2 h=>?_) (λhb2 h=>?_)
 ·exact mvZ (iZ failed) O<|gTZ O O hb2<|ac<|aF b8 O<|gTZ O O hb2<|ac<|af (aZ 2 O) sz3 ag3 O O (v:=iZ f.A) O<|gTZ O O hb2<|tkZ h (λhg h=>ac<|D3 O O hg<|gTZ O O hb2<|ac<|fo O O<|ac<|aY O hb2 (v:=.bool (decide<|(1*2^(Int.toNat f.A))<=failed)) O (nZ<|⟨(decide<|(1*2^(Int.toNat f.A))<=failed),(canon (fZ<|fn)<|sn),h⟩))
 exact gFZ O O hb2 O<|gFZ O O hb2 O<|gFZ O O hb2 O<|gFZ O O hb2 O<|ac<|aS O hb2 (v:=.bool true) O<|nZ<|⟨true,(canon (fZ<|fn)<|sn),h⟩
theorem qK {f:GFormula} {failed:Int} {Q:List Bool->Prop} (h:j3 f failed Q) (hQ:∀r1,Q r1->R (eL AV.bool r1) S) :
  Ctr prog 120 [am f,iZ failed] S R:=by
 refine aG func120 rfl ntmps120 results120 krZ (λrg hrg=>?_)
 refine ah<|wZ rg<|bA (v:=am f) O O (kk:=3) O dZ (λg1=>asZ .nil O<|aU<|ac<|aF b8 O<|ac<|af (aZ 2 O) sz3 ag3 O O (v:=iZ f.A) O<|ac<|aF b8 O<|ac<|af (aZ 2 O) sz3 ag3 O O (v:=iZ f.A) O<|ac<|aF bQ O<|ac<|af (aZ 2 O) eu fv O O (v:=eL aV f.V) O<|ac<|aK du O<|tkZ h (λhg h=>ac<|aC O O hg<|tkZ h (λhg1 h=>wZ rg<|fR jo C6 ok4 (enc:=AV.bool) (z':=false) yR (kk:=1) O O O hg1 (λg2=>asZ (.sl 1 rg 21 g2 0<|Int.toNat f.A) O<|nZ<|qZ<|ah<|mvZ (.sl 1 rg 21 g2 0<|Int.toNat f.A) O<|ac<|fG jo O<|mvZ (iZ 0) O<|nZ<|bZ<|lpZ h (λy=>a_ [(1,iZ failed),(2,.ptr rg 2 g1 0 0),(5,.sl 1 rg 21 g2 0 y.2.length),(23,iZ ((Int.toNat f.A):Int)),(24,iZ y.1)]) (λy=>stL S rg [(2,.arr 3 [am f],g1),(21,.arr 1 (List.map AV.bool y.2),g2)]) (canon (fZ<|fZ<|fc (VW.slen lzZ)<|fZ<|fZ<|fn)<|sc O<|sc O<|sn) (λy _ h=>?_)))))
 obtain⟨x,v⟩:=y
 refine ah<|ac<|bi O O<|nZ<|qZ<|cZ h O (λhb h=>?_) (λhb h=>?_)
 ·exact kZ<|qZ<|bZ<|ah<|mvZ (iZ x) O<|asZ (iZ x) O<|nZ<|rZ<|mvZ (.sl 1 rg 21 g2 0 v.length) O<|mvZ (iZ x) O<|mvZ (iZ failed) O<|mvZ (iZ x) O<|tkZ h (λhg2 h=>ac<|je O O hg2<|ac<|Ea O O<|ac<|bJ O O<|tkZ h (λhi h=>ac<|bh jo sz4 dZ O O hi<|ac<|bM (aZ 21 O) sz4 dZ (x':=((bits .and .i64 (failed / 2^(Int.toNat x)) 1) == 1)) (λ_=>O) O O (bE hi lzZ) O O aQ<|nZ<|rZ<|tkZ h (λhg3 h=>ac<|aC O O hg3<|mvZ (iZ<|x+1) O<|nZ<|⟨((x+1),(bu v x<|(bits .and .i64 (failed / 2^(Int.toNat x)) 1) == 1)),(canon (fZ<|fZ<|fc (VW.slen lzZ)<|fZ<|fZ<|fn)<|sc O<|sc O<|sn),h⟩)))
 refine xsZ<|qZ<|ah<|ac<|aF bQ O<|ac<|af (aZ 2 O) eu fv O O (v:=eL aV f.V) O<|ac<|aK du O<|mvZ (iZ 0) O<|nZ<|bZ<|lgZ h g2 (λy=>a_ [(5,.sl 1 rg 21 y.2 0 y.1.2.length),(37,eL aV f.V),(38,iZ (f.V.length:Int)),(39,iZ y.1.1)]) (λy=>stL S rg [(21,.arr 1 (List.map AV.bool y.1.2),y.2)]) (canon (aN<|fn)<|sc O<|sn) (λy _ h=>?_)
 obtain⟨⟨x1,v1⟩,g3⟩:=y
 refine ah<|ac<|bi O O<|nZ<|qZ<|cZ h O (λhb1 h=>?_) (λhb1 h=>?_)
 ·refine kZ<|qZ<|bZ<|ah<|tkZ h (λhg4 h=>ac<|a9 du eU dZ (λ_=>O) O O hg4<|ac<|cz eU dZ uj O O (v:=aV (at' f.V x1)) O<|wZ rg<|aT eJ kT (kk:=3) O (λg4=>ac<|ay (aZ 8 O) eU dZ O (w:=aV (at' f.V x1)) O O O (v:=aV (at' f.V x1)) O aQ<|aU<|asZ (iZ 0) O<|nZ<|qZ<|ah<|ac<|aF dA O<|ac<|af (aZ 8 O) ep ig O O (v:=bv ((at' f.V x1).M)) O (ac<|aK bK O<|mvZ (iZ 0) O<|nZ<|bZ<|lpZ h (λy=>a_ [(5,.sl 1 rg 21 g3 0 v1.length),(8,.ptr rg 8 g4 0 0),(9,iZ y.1),(37,eL aV f.V),(38,iZ (f.V.length:Int)),(39,iZ x1),(44,bv ((at' f.V x1).M)),(45,iZ (((at' f.V x1).M).length:Int)),(46,iZ y.2)]) (λy=>stL S rg [(8,.arr 3 [aV (at' f.V x1)],g4),(21,.arr 1 (List.map AV.bool v1),g3)]) (canon (aN<|aN<|fZ<|fn)<|sc O<|sc O<|sn) (λy _ h=>?_))))
  obtain⟨n,x2⟩:=y
  refine ah<|ac<|bi O O<|nZ<|qZ<|cZ h O (λhb2 h=>?_) (λhb2 h=>?_)
  ·refine kZ<|qZ<|bZ<|ah<|tkZ h (λhg5 h=>ac<|a9 bK sz3 dZ (λ_=>O) O O hg5<|ac<|aP sz3 ag3 O O (v:=iZ (at' ((at' f.V x1).M) x2)) O (asZ (iZ<|at' ((at' f.V x1).M) x2) O<|aU<|mvZ (.sl 1 rg 21 g3 0 v1.length) O<|mvZ (iZ<|at' ((at' f.V x1).M) x2) O<|tkZ h (λhi1 h=>ac<|bh jo sz4 dZ O O hi1<|ac<|bY (aZ 21 O) sz4 ag4 O (bE hi1 lzZ) O (v:=.bool (at' v1<|at' ((at' f.V x1).M) x2)) O (nZ<|cZ h O (λhb3 h=>?_) (λhb3 h=>?_)))))
   ·exact rZ<|mvZ (iZ n) O<|tkZ h (λhg6 h=>ac<|aC O O hg6<|asZ (iZ<|n+1) O<|nZ<|rZ<|tkZ h (λhg7 h=>ac<|aC O O hg7<|mvZ (iZ<|x2+1) O<|nZ<|⟨((n+1),(x2+1)),(canon (aN<|aN<|fZ<|fn)<|sc O<|sc O<|sn),h⟩))
   exact kZ<|rZ<|tkZ h (λhg8 h=>ac<|aC O O hg8<|mvZ (iZ<|x2+1) O<|nZ<|⟨(n,(x2+1)),(canon (aN<|aN<|fZ<|fn)<|sc O<|sc O<|sn),h⟩)
  refine xsZ<|ah<|asZ (.bool false) O<|nZ<|jgZ (γ:=Nat) h (λy=>a_ [(5,.sl 1 rg 21 y.2 0 v1.length),(12,.bool y.1),(37,eL aV f.V),(38,iZ (f.V.length:Int)),(39,iZ x1)]) (λy=>stL S rg [(21,.arr 1 (List.map AV.bool v1),y.2)]) (λy h=>?_) (λ_ h=>?_)
  ·obtain⟨is,g5⟩:=y
   exact rZ<|mvZ (.sl 1 rg 21 g5 0 v1.length) O<|mvZ (.bool is) O<|wZ rg<|bq jo ok4 yR (es:=[.bool is]) O (kk:=1) O O O O O O (λg6=>tkZ h (λhg9 h=>wZ rg<|cF jo C6 ok4 yR (es:=v1) (xs:=[is]) (enc:=AV.bool) (aZ 21 O) lzZ (bI (aZ 92 O) lzZ) (kk:=1) O O (λ_=>O) (λ_=>O) hg9 O (λ_=>aQ) (λg7=>asZ (.sl 1 rg 21 g7 0<|(v1++[is]).length) O<|nZ<|rZ<|tkZ h (λhg10 h=>ac<|aC O O hg10<|mvZ (iZ<|x1+1) O<|nZ<|⟨(((x1+1),(v1++[is])),g7),(canon (aN<|fn)<|sc O<|sn),h⟩))))
  refine ah<|ac<|aF jH O<|ac<|af (aZ 8 O) sz3 ag3 O O (v:=iZ ((at' f.V x1).D)) O (nZ<|bZ<|ah<|ac<|bJ O O<|asZ (.bool<|(at' f.V x1).D == 0) O<|nZ<|cZ h O (λhb4 h=>?_) (λhb4 h=>?_))
  ·exact rZ<|ac<|aF gG O<|ac<|af (aZ 8 O) sz3 ag3 O O (v:=iZ ((at' f.V x1).K)) O (ac<|bJ O O<|asZ (.bool<|(at' f.V x1).K == 1) O<|nZ<|⟨(((at' f.V x1).K == 1),g3),(canon (aN<|fZ<|fn)<|sc O<|sn),h⟩)
  refine ah<|ac<|bJ O O<|asZ (.bool<|(at' f.V x1).D == 1) O<|nZ<|cZ h O (λhb5 h=>?_) (λhb5 h=>?_)
  ·exact rZ<|mvZ (iZ n) O<|ac<|bJ O O<|asZ (.bool<|n == 0) O<|nZ<|⟨((n == 0),g3),(canon (aN<|fZ<|fn)<|sc O<|sn),h⟩
  refine ah<|ac<|bJ O O<|asZ (.bool<|(at' f.V x1).D == 2) O<|nZ<|cZ h O (λhb6 h=>?_) (λhb6 h=>?_)
  ·exact rZ<|mvZ (iZ n) O<|ac<|aF dA O<|ac<|af (aZ 8 O) ep ig O O (v:=bv ((at' f.V x1).M)) O (ac<|aK bK O<|ac<|bJ O O<|asZ (.bool<|n == (((at' f.V x1).M).length:Int)) O (nZ<|⟨((n == (((at' f.V x1).M).length:Int)),g3),(canon (aN<|fZ<|fn)<|sc O<|sn),h⟩))
  refine ah<|ac<|bJ O O<|asZ (.bool<|(at' f.V x1).D == 3) O<|nZ<|cZ h O (λhb7 h=>?_) (λhb7 h=>?_)
  ·exact rZ<|mvZ (iZ n) O<|ac<|cY O O<|asZ (.bool<|decide<|0<n) O<|nZ<|⟨((decide<|0<n),g3),(canon (aN<|fZ<|fn)<|sc O<|sn),h⟩
  refine ah<|ac<|bJ O O<|asZ (.bool<|(at' f.V x1).D == 4) O<|nZ<|cZ h O (λhb8 h=>?_) (λhb8 h=>?_)
  ·exact rZ<|mvZ (iZ n) O<|ac<|aF gG O<|ac<|af (aZ 8 O) sz3 ag3 O O (v:=iZ ((at' f.V x1).K)) O (ac<|fo O O<|asZ (.bool<|decide<|(at' f.V x1).K<=n) O<|nZ<|⟨((decide<|(at' f.V x1).K<=n),g3),(canon (aN<|fZ<|fn)<|sc O<|sn),h⟩)
  refine ah<|ac<|bJ O O<|asZ (.bool<|(at' f.V x1).D == 5) O<|nZ<|cZ h O (λhb9 h=>?_) (λhb9 h=>?_)
  ·exact rZ<|mvZ (iZ n) O<|ac<|BK O O dZ<|ac<|bJ O O<|asZ (.bool<|(Int.tmod n 2) == 1) O<|nZ<|⟨(((Int.tmod n 2) == 1),g3),(canon (aN<|fZ<|fn)<|sc O<|sn),h⟩
  exact kZ<|⟨(false,g3),(canon (aN<|fZ<|fn)<|sc O<|sn),h⟩
 exact xsZ<|ah<|mvZ (.sl 1 rg 21 g3 0 v1.length) O<|asZ (.sl 1 rg 21 g3 0 v1.length) O<|aE<|aB (v:=.sl 1 rg 21 g3 0 v1.length) O<|aJ<|br (k:=21) (xs:=List.map AV.bool v1) O (v':=eL AV.bool v1) (bg O)<|goZ hrg<|hQ _ h
theorem rS {f:GFormula} {failed:Int} {Q:Bool->Option Int->Prop} (h:k_ f failed Q) (hQ:∀r1 r2,Q r1 r2->R (.tuple [AV.bool r1,aW 41 r2]) S) :
  Ctr prog 80 [am f,iZ failed] S R:=by
 refine aG func80 rfl ntmps80 results80 krZ (λrg hrg=>?_)
 refine ah<|wZ rg<|bA (v:=am f) O O (kk:=3) O dZ (λg1=>asZ (.bool false) O<|asZ .niface O<|nZ<|qZ<|ah<|ac<|ar (aZ 2 O) ck dZ fm O O (v:=am f) O<|mvZ (iZ failed) O<|ac<|clZ O<|rR h λe h=>asZ (aW 41 e) O<|aU<|mvZ (aW 41 e) O<|ac<|cH fX (E:=41) O O O<|nZ<|cZ h O (λhb h=>?_) (λhb h=>?_))
 ·exact ah<|mvZ (aW 41 e) O<|asZ (.bool false) O<|asZ (aW 41 e) O<|aE<|aB (v:=.bool false) O<|aB (v:=aW 41 e) O<|aJ<|aO hrg (VW.tupL<|vZ<|vZ<|vn)<|hQ _ _ h
 refine kZ<|qZ ?_
 obtain⟨r,hc,h⟩:=h
 exact tkZ h (λhg h=>Vc.drawn' bG rg (gk [(2,pc (eL AV.bool r))]) krZ<|dL (E:=([(rg,2)],[])) O O zSm (cfn) (ar (aZ 2 O) ck dZ fm O O (v:=am f) O<|dP O O<|aD (v:=iZ failed) O<|dC (vs:=[am f,iZ failed]) O (vZ<|vZ<|vn) (λ_=>qK hc (λ_ hr=>⟨by rw[hr],rfl⟩)) O<|dP O O<|aF iF O<|dL (E:=([(rg,2)],[])) O O zSm (cfa zAp<|cfn) (af (aZ 2 O) sz3 ag3 O O (v:=iZ f.F) O<|dP O O<|a9 jo sz4 dZ (λ_=>O) O O hg<|dP O O<|aP sz4 ag4 O O (v:=.bool (at' r f.F)) O<|dP O O<|a8 (v:=.bool (at' r f.F)) O<|dP O O<|a8 (v:=.niface) O<|dN<|uZ<|aB (v:=.bool (at' r f.F)) O<|aB (v:=.niface) O<|aJ<|aO hrg (VW.tupL<|vZ<|vZ<|vn)<|hQ _ _ h)))
theorem uU {f:GFormula} {i:Int} {Q:Int->Prop} (h:n8 f i Q) (hQ:∀r1,Q r1->R (iZ r1) S) :
  Ctr prog 99 [am f,iZ i] S R:=by
 refine aG func99 rfl ntmps99 results99 krZ (λrg hrg=>?_)
 refine ah<|wZ rg<|bA (v:=am f) O O (kk:=3) O dZ (λg1=>asZ (iZ 0) O<|aU<|ac<|aF bQ O<|ac<|af (aZ 2 O) eu fv O O (v:=eL aV f.V) O<|mvZ (iZ i) O<|tkZ h (λhg h=>ac<|a9 du eU dZ (λ_=>O) O O hg<|ac<|cz eU dZ uj O O (v:=aV (at' f.V i)) O<|wZ rg<|aT eJ kT (kk:=3) O (λg2=>ac<|ay (aZ 5 O) eU dZ O (w:=aV (at' f.V i)) O O O (v:=aV (at' f.V i)) O aQ<|aU<|asZ (iZ 1) O<|asZ (iZ 16) O<|nZ<|jgZ (γ:=Nat×Nat) h (λy=>a_ [(1,iZ i),(2,.ptr rg 2 y.2.1 0 0),(5,.ptr rg 5 y.2.2 0 0),(6,iZ y.1.1),(7,iZ y.1.2)]) (λy=>stL S rg [(2,.arr 3 [am f],y.2.1),(5,.arr 3 [aV (at' f.V i)],y.2.2)]) (λy h=>?_) (λ_ h=>?_))))
 ·obtain⟨⟨least,most⟩,⟨g3,g4⟩⟩:=y
  refine qZ<|ah<|ac<|aF dA O<|ac<|af (aZ 5 O) ep ig O O (v:=bv ((at' f.V i).M)) O (ac<|aK bK O<|mvZ (iZ least) O<|ac<|bi O O<|mvZ (.bool<|decide<|(((at' f.V i).M).length:Int)<least) O (gfZ h O O (λhb h=>?_) (λhb h=>?_)))
  ·refine ac<|aF dA O<|gTZ O O hb<|ac<|af (aZ 5 O) ep ig O O (v:=bv ((at' f.V i).M)) O (gTZ O O hb<|ac<|aK bK O<|gTZ O O hb<|mvZ (iZ most) O<|gTZ O O hb<|ac<|cY O O<|ac<|aY O hb (v:=.bool (decide<|most<(((at' f.V i).M).length:Int))) O (nZ<|cZ h O (λhb1 h=>?_) (λhb1 h=>?_)))
   ·exact ah<|asZ (iZ 11) O<|aE<|gv1 hrg<|hQ _ h
   refine kZ<|qZ<|ah<|ac<|aF dA O<|ac<|af (aZ 5 O) ep ig O O (v:=bv ((at' f.V i).M)) O (ac<|aK bK O<|mvZ (iZ 0) O<|nZ<|bZ<|lpZ h (λy=>a_ [(1,iZ i),(2,.ptr rg 2 g3 0 0),(5,.ptr rg 5 g4 0 0),(39,bv ((at' f.V i).M)),(40,iZ (((at' f.V i).M).length:Int)),(41,iZ y)]) (λy=>stL S rg [(2,.arr 3 [am f],g3),(5,.arr 3 [aV (at' f.V i)],g4)]) (canon (aN<|fZ<|fZ<|fn)<|sc O<|sc O<|sn) (λx _ h=>ah<|ac<|bi O O<|nZ<|qZ<|cZ h O (λhb2 h=>?_) (λhb2 h=>?_)))
   ·refine kZ<|qZ<|bZ<|ah<|tkZ h (λhg1 h=>ac<|a9 bK sz3 dZ (λ_=>O) O O hg1<|ac<|aP sz3 ag3 O O (v:=iZ (at' ((at' f.V i).M) x)) O (asZ (iZ<|at' ((at' f.V i).M) x) O<|aU<|mvZ (iZ<|at' ((at' f.V i).M) x) O<|ac<|bi O O<|mvZ (.bool<|decide<|(at' ((at' f.V i).M) x)<0) O (gfZ h O O (λhb3 h=>?_) (λhb3 h=>?_))))
    ·refine mvZ (iZ<|at' ((at' f.V i).M) x) O<|gTZ O O hb3<|ac<|aF b8 O<|gTZ O O hb3<|ac<|af (aZ 2 O) sz3 ag3 O O (v:=iZ f.A) O<|gTZ O O hb3<|mvZ (iZ i) O<|gTZ O O hb3<|tkZ h (λhg2 h=>ac<|aC O O hg2<|gTZ O O hb3<|ac<|fo O O<|ac<|aY O hb3 (v:=.bool (decide<|(f.A+i)<=(at' ((at' f.V i).M) x))) O (nZ<|cZ h O (λhb4 h=>?_) (λhb4 h=>?_)))
     ·exact ah<|asZ (iZ 10) O<|aE<|gv1 hrg<|hQ _ h
     exact kZ<|rZ<|tkZ h (λhg3 h=>ac<|aC O O hg3<|mvZ (iZ<|x+1) O<|nZ<|⟨(x+1),(canon (aN<|fZ<|fZ<|fn)<|sc O<|sc O<|sn),h⟩)
    exact gFZ O O hb3 O<|gFZ O O hb3 O<|gFZ O O hb3 O<|gFZ O O hb3 O<|gFZ O O hb3 O<|ac<|aS O hb3 (v:=.bool true) O<|nZ<|cTZ O O<|ah<|asZ (iZ 10) O<|aE<|gv1 hrg<|hQ _ h
   refine xsZ<|qZ<|ah<|ac<|aF jH O<|ac<|af (aZ 5 O) sz3 ag3 O O (v:=iZ ((at' f.V i).D)) O (nZ<|bZ<|ah<|ac<|bJ O O<|asZ (.bool<|(at' f.V i).D == 0) O<|nZ<|cZ h O (λhb5 h=>?_) (λhb5 h=>?_))
   ·refine ah<|ac<|aF gG O<|ac<|af (aZ 5 O) sz3 ag3 O O (v:=iZ ((at' f.V i).K)) O (ac<|fA O O<|mvZ (.bool<|(at' f.V i).K != 0) O<|gtZ h O O (λhb6 h=>?_) (λhb6 h=>?_))
    ·refine ac<|aF gG O<|gTZ O O hb6<|ac<|af (aZ 5 O) sz3 ag3 O O (v:=iZ ((at' f.V i).K)) O (gTZ O O hb6<|ac<|fA O O<|ac<|aS O hb6 (v:=.bool ((at' f.V i).K != 1)) O (nZ<|cZ h O (λhb7 h=>?_) (λhb7 h=>?_)))
     ·exact ah<|asZ (iZ 3) O<|aE<|gv1 hrg<|hQ _ h
     exact kZ<|ah<|asZ (iZ 0) O<|aE<|gv1 hrg<|hQ _ h
    exact gFZ O O hb6 O<|gFZ O O hb6 O<|ac<|aY O hb6 (v:=.bool false) O<|nZ<|cFZ O O<|kZ<|ah<|asZ (iZ 0) O<|aE<|gv1 hrg<|hQ _ h
   refine ah<|ac<|bJ O O<|asZ (.bool<|(at' f.V i).D == 4) O<|nZ<|cZ h O (λhb8 h=>?_) (λhb8 h=>?_)
   ·refine ah<|ac<|aF gG O<|ac<|af (aZ 5 O) sz3 ag3 O O (v:=iZ ((at' f.V i).K)) O (ac<|bi O O<|mvZ (.bool<|decide<|(at' f.V i).K<1) O<|gfZ h O O (λhb9 h=>?_) (λhb9 h=>?_))
    ·refine ac<|aF gG O<|gTZ O O hb9<|ac<|af (aZ 5 O) sz3 ag3 O O (v:=iZ ((at' f.V i).K)) O (gTZ O O hb9<|ac<|aF dA O<|gTZ O O hb9<|ac<|af (aZ 5 O) ep ig O O (v:=bv ((at' f.V i).M)) O (gTZ O O hb9<|ac<|aK bK O<|gTZ O O hb9<|ac<|cY O O<|ac<|aY O hb9 (v:=.bool (decide<|(((at' f.V i).M).length:Int)<(at' f.V i).K)) O (nZ<|cZ h O (λhb10 h=>?_) (λhb10 h=>?_))))
     ·exact ah<|asZ (iZ 3) O<|aE<|gv1 hrg<|hQ _ h
     exact kZ<|ah<|asZ (iZ 0) O<|aE<|gv1 hrg<|hQ _ h
    exact gFZ O O hb9 O<|gFZ O O hb9 O<|gFZ O O hb9 O<|gFZ O O hb9 O<|gFZ O O hb9 O<|ac<|aS O hb9 (v:=.bool true) O<|nZ<|cTZ O O<|ah<|asZ (iZ 3) O<|aE<|gv1 hrg<|hQ _ h
   refine ah<|ac<|aF gG O<|ac<|af (aZ 5 O) sz3 ag3 O O (v:=iZ ((at' f.V i).K)) O (ac<|fA O O<|nZ<|cZ h O (λhb11 h=>?_) (λhb11 h=>?_))
   ·exact ah<|asZ (iZ 2) O<|aE<|gv1 hrg<|hQ _ h
   exact kZ<|ah<|asZ (iZ 0) O<|aE<|gv1 hrg<|hQ _ h
  exact gFZ O O hb O<|gFZ O O hb O<|gFZ O O hb O<|gFZ O O hb O<|ac<|aS O hb (v:=.bool true) O<|nZ<|cTZ O O<|ah<|asZ (iZ 11) O<|aE<|gv1 hrg<|hQ _ h
 refine ah<|ac<|aF jH O<|ac<|af (aZ 5 O) sz3 ag3 O O (v:=iZ ((at' f.V i).D)) O (nZ<|bZ<|ah<|ac<|bJ O O<|asZ (.bool<|(at' f.V i).D == 0) O<|nZ<|cZ h O (λhb12 h=>?_) (λhb12 h=>?_))
 ·exact rZ<|asZ (iZ 0) O<|asZ (iZ 0) O<|nZ<|⟨((0,0),(g1,g2)),(canon (aN<|fZ<|fn)<|sc O<|sc O<|sn),h⟩
 refine ah<|ac<|bJ O O<|asZ (.bool<|(at' f.V i).D == 1) O<|nZ<|cZ h O (λhb13 h=>?_) (λhb13 h=>?_)
 ·exact rZ<|asZ (iZ 1) O<|nZ<|⟨((1,1),(g1,g2)),(canon (aN<|fZ<|fn)<|sc O<|sc O<|sn),h⟩
 refine qZ<|ah<|ac<|bJ O O<|asZ (.bool<|(at' f.V i).D == 2) O<|nZ<|cZ h O (λhb14 h=>?_) (λhb14 h=>?_)
 ·exact kZ<|cTZ O hb14<|kZ<|⟨((1,16),(g1,g2)),(canon (aN<|fZ<|fn)<|sc O<|sc O<|sn),h⟩
 refine ah<|ac<|bJ O O<|asZ (.bool<|(at' f.V i).D == 3) O<|nZ<|cZ h O (λhb15 h=>?_) (λhb15 h=>?_)
 ·exact kZ<|cTZ O hb15<|kZ<|⟨((1,16),(g1,g2)),(canon (aN<|fZ<|fn)<|sc O<|sc O<|sn),h⟩
 refine ah<|ac<|bJ O O<|asZ (.bool<|(at' f.V i).D == 4) O<|nZ<|cZ h O (λhb16 h=>?_) (λhb16 h=>?_)
 ·exact kZ<|cTZ O hb16<|kZ<|⟨((1,16),(g1,g2)),(canon (aN<|fZ<|fn)<|sc O<|sc O<|sn),h⟩
 refine rZ<|ac<|bJ O O<|asZ (.bool<|(at' f.V i).D == 5) O<|nZ<|cZ h O (λhb17 h=>?_) (λhb17 h=>?_)
 ·exact kZ<|⟨((1,16),(g1,g2)),(canon (aN<|fZ<|fn)<|sc O<|sc O<|sn),h⟩
 exact ah<|asZ (iZ 7) O<|aE<|gv1 hrg<|hQ _ h
theorem tV {f:GFormula} {arg:Int} {Q:Bool->Prop} (h:m7 f arg Q) (hQ:∀r1,Q r1->R (AV.bool r1) S) :
  Ctr prog 100 [am f,iZ arg] S R:=by
 refine aG func100 rfl ntmps100 results100 krZ (λrg hrg=>?_)
 refine ah<|wZ rg<|bA (v:=am f) O O (kk:=3) O dZ (λg1=>asZ (.bool false) O<|aU<|ac<|aF b8 O<|ac<|af (aZ 2 O) sz3 ag3 O O (v:=iZ f.A) O<|ac<|fo O O<|mvZ (.bool<|decide<|0<=f.A) O<|gtZ h O O (λhb h=>?_) (λhb h=>?_))
 ·refine mvZ (iZ arg) O<|gTZ O O hb<|ac<|fo O O<|ac<|aS O hb (v:=.bool (decide<|0<=arg)) O (mvZ (.bool<|decide<|0<=arg) O<|gtZ h O O (λhb1 h=>?_) (λhb1 h=>?_))
  ·refine mvZ (iZ arg) O<|gTZ O O hb1<|ac<|aF b8 O<|gTZ O O hb1<|ac<|af (aZ 2 O) sz3 ag3 O O (v:=iZ f.A) O<|gTZ O O hb1<|ac<|bi O O<|gTZ O O hb1<|mvZ (.bool<|decide<|arg<f.A) O<|gfZ h O O (λhb2 h=>?_) (λhb2 h=>?_)
   ·exact mvZ (iZ arg) O<|gTZ O O hb2<|ac<|aF b8 O<|gTZ O O hb2<|ac<|af (aZ 2 O) sz3 ag3 O O (v:=iZ f.A) O<|gTZ O O hb2<|tkZ h (λhg h=>ac<|bL O O hg<|gTZ O O hb2<|ac<|aF bQ O<|gTZ O O hb2<|ac<|af (aZ 2 O) eu fv O O (v:=eL aV f.V) O<|gTZ O O hb2<|ac<|aK du O<|gTZ O O hb2<|ac<|bi O O<|gTZ O O hb1<|ac<|aY O hb2 (v:=.bool (decide<|(arg-f.A)<(f.V.length:Int))) O (ac<|aS O hb1 (v:=.bool (decide<|(arg-f.A)<(f.V.length:Int))) O (asZ (.bool<|decide<|(arg-f.A)<(f.V.length:Int)) O (aE<|gv1 hrg<|hQ _ h))))
   exact gFZ O O hb2 O<|gFZ O O hb2 O<|gFZ O O hb2 O<|gFZ O O hb2 O<|gFZ O O hb2 O<|gFZ O O hb2 O<|gFZ O O hb2 O<|gTZ O O hb1<|ac<|aS O hb2 (v:=.bool true) O<|ac<|aS O hb1 (v:=.bool true) O<|asZ (.bool true) O<|aE<|gv1 hrg<|hQ _ h
  exact gFZ O O hb1 O<|gFZ O O hb1 O<|gFZ O O hb1 O<|gFZ O O hb1 O<|gUZ O O<|gUZ O O<|gUZ O O<|gUZ O O<|gUZ O O<|gUZ O O<|gUZ O O<|gUZ O O<|gFZ O O hb1 O<|ac<|aY O hb1 (v:=.bool false) O<|asZ (.bool false) O<|aE<|gv1 hrg<|hQ _ h
 exact gFZ O O hb O<|ac<|aY O hb (v:=.bool false) O<|mvZ (.bool false) O<|gFZ O O O O<|gFZ O O O O<|gFZ O O O O<|gFZ O O O O<|gFZ O O O O<|gUZ O O<|gUZ O O<|gUZ O O<|gUZ O O<|gUZ O O<|gUZ O O<|gUZ O O<|gUZ O O<|gFZ O O O O<|ac<|aY O O (v:=.bool false) O<|asZ (.bool false) O<|aE<|gv1 hrg<|hQ _ h
theorem tW {f:GFormula} {Q:Int->Prop} (h:m8 f Q) (hQ:∀r1,Q r1->R (iZ r1) S) :
  Ctr prog 65 [am f] S R:=by
 refine aG func65 rfl ntmps65 results65 krZ (λrg hrg=>?_)
 refine ah<|wZ rg<|bA (v:=am f) O O (kk:=3) O dZ (λg1=>asZ (iZ 0) O<|nZ<|qZ<|ah<|ac<|aF b8 O<|ac<|af (aZ 1 O) sz3 ag3 O O (v:=iZ f.A) O<|ac<|bi O O<|mvZ (.bool<|decide<|f.A<0) O<|gfZ h O O (λhb h=>?_) (λhb h=>?_))
 ·refine ac<|aF b8 O<|gTZ O O hb<|ac<|af (aZ 1 O) sz3 ag3 O O (v:=iZ f.A) O<|gTZ O O hb<|ac<|cY O O<|ac<|aY O hb (v:=.bool (decide<|24<f.A)) O (nZ<|cZ h O (λhb1 h=>?_) (λhb1 h=>?_))
  ·exact ah<|asZ (iZ 3) O<|aE<|gv1 hrg<|hQ _ h
  refine kZ<|qZ<|ah<|ac<|aF bQ O<|ac<|af (aZ 1 O) eu fv O O (v:=eL aV f.V) O<|ac<|aK du O<|ac<|cY O O<|nZ<|cZ h O (λhb2 h=>?_) (λhb2 h=>?_)
  ·exact ah<|asZ (iZ 4) O<|aE<|gv1 hrg<|hQ _ h
  refine kZ<|qZ<|ah<|ac<|aF bQ O<|ac<|af (aZ 1 O) eu fv O O (v:=eL aV f.V) O<|ac<|aK du O<|mvZ (iZ 0) O<|nZ<|bZ<|lpZ h (λy=>a_ [(1,.ptr rg 1 g1 0 0),(19,iZ (f.V.length:Int)),(20,iZ y)]) (λy=>stL S rg [(1,.arr 3 [am f],g1)]) (canon (fZ<|fZ<|fZ<|fn)<|sc O<|sn) (λx _ h=>ah<|ac<|bi O O<|nZ<|qZ<|cZ h O (λhb3 h=>?_) (λhb3 h=>?_))
  ·refine kZ<|qZ<|bZ<|ah<|mvZ (iZ x) O<|asZ (iZ x) O<|aU<|ac<|ar (aZ 1 O) ck dZ fm O O (v:=am f) O<|mvZ (iZ x) O<|ac<|clZ O<|uU h λe h=>asZ (iZ e) O<|aU<|mvZ (iZ e) O<|ac<|fA O O<|nZ<|cZ h O (λhb4 h=>?_) (λhb4 h=>?_)
   ·exact ah<|mvZ (iZ e) O<|asZ (iZ e) O<|aE<|gv1 hrg<|hQ _ h
   exact kZ<|rZ<|tkZ h (λhg h=>ac<|aC O O hg<|mvZ (iZ<|x+1) O<|nZ<|⟨(x+1),(canon (fZ<|fZ<|fZ<|fn)<|sc O<|sn),h⟩)
  refine xsZ<|qZ<|ah<|ac<|ar (aZ 1 O) ck dZ fm O O (v:=am f) O<|ac<|aF iF O<|ac<|af (aZ 1 O) sz3 ag3 O O (v:=iZ f.F) O<|ac<|clZ O<|tV h λr h=>ac<|fQ O<|nZ<|cZ h O (λhb5 h=>?_) (λhb5 h=>?_)
  ·exact ah<|asZ (iZ 10) O<|aE<|gv1 hrg<|hQ _ h
  exact kZ<|ah<|asZ (iZ 0) O<|aE<|gv1 hrg<|hQ _ h
 exact gFZ O O hb O<|gFZ O O hb O<|ac<|aS O hb (v:=.bool true) O<|nZ<|cTZ O O<|ah<|asZ (iZ 3) O<|aE<|gv1 hrg<|hQ _ h
theorem tX {f:GFormula} {Q:List Bool->Prop} (h:m9 f Q) (hQ:∀r1,Q r1->R (eL AV.bool r1) S) :
  Ctr prog 48 [am f] S R:=by
 refine aG func48 rfl ntmps48 results48 krZ (λrg hrg=>?_)
 refine ah<|wZ rg<|bA (v:=am f) O O (kk:=3) O dZ (λg1=>asZ .nil O<|aU<|ac<|aF b8 O<|ac<|af (aZ 1 O) sz3 ag3 O O (v:=iZ f.A) O<|ac<|aF bQ O<|ac<|af (aZ 1 O) eu fv O O (v:=eL aV f.V) O<|ac<|aK du O<|tkZ h (λhg h=>ac<|aC O O hg<|tkZ h (λhg1 h=>wZ rg<|fR jo C6 ok4 (enc:=AV.bool) (z':=false) yR (kk:=1) O O O hg1 (λg2=>asZ (.sl 1 rg 13 g2 0<|Int.toNat<|f.A+(f.V.length:Int)) O<|aU<|mvZ (.sl 1 rg 13 g2 0<|Int.toNat<|f.A+(f.V.length:Int)) O<|ac<|aF iF O<|ac<|af (aZ 1 O) sz3 ag3 O O (v:=iZ f.F) O<|tkZ h (λhi h=>ac<|bh jo sz4 dZ O O hi<|ac<|bM (aZ 13 O) sz4 dZ (x':=true) (λ_=>O) O O (bE hi lzZ) O O aQ<|nZ<|qZ<|ah<|ac<|aF bQ O<|ac<|af (aZ 1 O) eu fv O O (v:=eL aV f.V) O<|ac<|aK du O<|tkZ h (λhg2 h=>ac<|bL O O hg2<|asZ (iZ<|(f.V.length:Int)-1) O<|nZ<|bZ<|lpZ h (λy=>a_ [(1,.ptr rg 1 g1 0 0),(3,.sl 1 rg 13 g2 0 y.2.length),(4,iZ y.1)]) (λy=>stL S rg [(1,.arr 3 [am f],g1),(13,.arr 1 (List.map AV.bool y.2),g2)]) (canon (fZ<|fc (VW.slen lzZ)<|fZ<|fn)<|sc O<|sc O<|sn) (λy _ h=>?_)))))))
 obtain⟨i,mark⟩:=y
 refine qZ<|ah<|mvZ (iZ i) O<|ac<|fo O O<|nZ<|cZ h O (λhb h=>?_) (λhb h=>?_)
 ·refine kZ<|qZ<|bZ<|qZ<|ah<|mvZ (.sl 1 rg 13 g2 0 mark.length) O<|ac<|aF b8 O<|ac<|af (aZ 1 O) sz3 ag3 O O (v:=iZ f.A) O<|mvZ (iZ i) O<|tkZ h (λhg3 h=>ac<|aC O O hg3<|tkZ h (λhi1 h=>ac<|bh jo sz4 dZ O O hi1<|ac<|bY (aZ 13 O) sz4 ag4 O (bE hi1 lzZ) O (v:=.bool (at' mark<|f.A+i)) O (ac<|fQ O<|nZ<|cZ h O (λhb1 h=>?_) (λhb1 h=>?_))))
  ·exact xsZ<|rZ<|mvZ (iZ i) O<|tkZ h (λhg4 h=>ac<|bL O O hg4<|asZ (iZ<|i-1) O<|nZ<|⟨((i-1),mark),(canon (fZ<|fZ<|fZ<|fn)<|sc O<|sc O<|sn),h⟩)
  refine kZ<|ah<|ac<|aF bQ O<|ac<|af (aZ 1 O) eu fv O O (v:=eL aV f.V) O<|mvZ (iZ i) O<|tkZ h (λhg5 h=>ac<|a9 du eU dZ (λ_=>O) O O hg5<|ac<|faZ dA O O<|ac<|aP ep ig O O (v:=bv ((at' f.V i).M)) O (ac<|aK bK O<|mvZ (iZ 0) O<|nZ<|bZ<|lpZ h (λy=>a_ [(1,.ptr rg 1 g1 0 0),(3,.sl 1 rg 13 g2 0 y.2.length),(4,iZ i),(39,bv ((at' f.V i).M)),(40,iZ (((at' f.V i).M).length:Int)),(41,iZ y.1)]) (λy=>stL S rg [(1,.arr 3 [am f],g1),(13,.arr 1 (List.map AV.bool y.2),g2)]) (canon (aN<|fZ<|fZ<|fn)<|sc O<|sc O<|sn) (λy _ h=>?_)))
  obtain⟨x,mark1⟩:=y
  refine ah<|ac<|bi O O<|nZ<|qZ<|cZ h O (λhb2 h=>?_) (λhb2 h=>?_)
  ·exact kZ<|qZ<|bZ<|ah<|tkZ h (λhg6 h=>ac<|a9 bK sz3 dZ (λ_=>O) O O hg6<|ac<|aP sz3 ag3 O O (v:=iZ (at' ((at' f.V i).M) x)) O (asZ (iZ<|at' ((at' f.V i).M) x) O<|nZ<|rZ<|mvZ (.sl 1 rg 13 g2 0 mark1.length) O<|mvZ (iZ<|at' ((at' f.V i).M) x) O<|tkZ h (λhi2 h=>ac<|bh jo sz4 dZ O O hi2<|ac<|bM (aZ 13 O) sz4 dZ (x':=true) (λ_=>O) O O (bE hi2 lzZ) O O aQ<|nZ<|rZ<|tkZ h (λhg7 h=>ac<|aC O O hg7<|mvZ (iZ<|x+1) O<|nZ<|⟨((x+1),(bu mark1 (at' ((at' f.V i).M) x) true)),(canon (fZ<|fc (VW.slen lzZ)<|aN<|fn)<|sc O<|sc O<|sn),h⟩))))
  exact xsZ<|rZ<|mvZ (iZ i) O<|tkZ h (λhg8 h=>ac<|bL O O hg8<|asZ (iZ<|i-1) O<|nZ<|⟨((i-1),mark1),(canon (fZ<|fZ<|fZ<|fn)<|sc O<|sc O<|sn),h⟩)
 exact xsZ<|ah<|mvZ (.sl 1 rg 13 g2 0 mark.length) O<|asZ (.sl 1 rg 13 g2 0 mark.length) O<|aE<|aB (v:=.sl 1 rg 13 g2 0 mark.length) O<|aJ<|br (k:=13) (xs:=List.map AV.bool mark) O (v':=eL AV.bool mark) (bg O)<|goZ hrg<|hQ _ h
end Go.Proofs.YtcmagbhiioheeaaGreat
namespace Go.Proofs.YtcmagbhiioheeaaGreat
open Go.Gg Tryz
set_option maxRecDepth 100000
variable {S:St} {R:AV->St->Prop}
theorem lT {s:List Int} {Q:List Int->Prop} (h:fE s Q) (hQ:∀r1,Q r1->R (bv r1) S) :
  Ctr prog 56 [bv s] S R:=by
 refine aG func56 rfl ntmps56 results56 krZ (λrg hrg=>?_)
 refine ah<|asZ .nil O<|nZ<|qZ<|ah<|mvZ (bv s) O<|Wl.isnil bK O O (λisnil hn=>?_)
 replace h:=h isnil hn
 refine nZ<|cZ h O (λhb h=>?_) (λhb h=>?_)
 ·exact ah<|asZ .nil O<|aE<|aB (v:=.nil) O<|aJ<|aO hrg (VW.nilL)<|hQ _ h
 exact kZ<|ah<|wZ rg<|bq bK ok3 fD (es:=[]) O (kk:=1) O O O O O O (λg1=>mvZ (bv s) O<|tkZ h (λhg h=>wZ rg<|cF bK nt ok3 fD (es:=([]:List Int)) (xs:=s) (enc:=iZ) (aZ 5 O) lzZ (O) (kk:=1) O O (λ_=>O) (λ_=>O) hg O (λ_=>aQ) (λg2=>asZ (.sl 1 rg 5 g2 0<|(([]:List Int)++s).length) O<|aE<|aB (v:=.sl 1 rg 5 g2 0 ((([]:List Int)++s).length)) O (aJ<|br (k:=5) (xs:=List.map iZ (([]:List Int)++s)) O (v':=bv (([]:List Int)++s)) (bg O) (goZ hrg<|hQ _ h)))))
theorem kC {s:List Int} {q0 k0 g0:Nat} (hdk:DK [(q0,k0)]) {Q:List Int->Prop} (h:eM s Q) (hQ:∀r1,Q r1->R (bv r1) (stX S [(q0,k0,.arr 1 (List.map iZ s),g0)])) :
  Ctr prog 56 [.sl 1 q0 k0 g0 0 s.length] (stX S [(q0,k0,.arr 1 (List.map iZ s),g0)]) R:=by
 refine aG func56 rfl ntmps56 results56 krZ (λrg hrg=>?_)
 have hdx:DX [(q0,k0,.arr 1 (List.map iZ s),g0)]:=hdk
 have hfr:=λX' e=>b7 (S:=S) (rg:=rg) (X:=[(q0,k0,.arr 1 (List.map iZ s),g0)]) (X':=X') e hrg
 have hne0:=aA hdx hrg 0 rfl
 refine ah<|asZ .nil O<|nZ<|qZ<|ah<|mvZ (.sl 1 q0 k0 g0 0 s.length) O<|Wl.isnilR bK O O (λisnil hn=>?_)
 replace h:=h isnil hn
 refine nZ<|cZ h O (λhb h=>?_) (λhb h=>?_)
 ·exact ah<|asZ .nil O<|aE<|aB (v:=.nil) O<|aJ<|aO (hfr _ O) (VW.nilL)<|hQ _ h
 exact kZ<|ah<|wZ rg<|bq bK ok3 fD (es:=[]) O (kk:=1) O O O O O O (λg1=>mvZ (.sl 1 q0 k0 g0 0 s.length) O<|tkZ h (λhg h=>wZ rg<|cF bK nt ok3 fD (es:=([]:List Int)) (xs:=s) (enc:=iZ) (aZ 5 O) lzZ (bI (atX hne0 hdx 0 O) lzZ) (kk:=1) O O (λ_=>O) (λ_=>O) hg O (λ_=>aQ) (λg2=>asZ (.sl 1 rg 5 g2 0<|(([]:List Int)++s).length) O<|aE<|aB (v:=.sl 1 rg 5 g2 0 ((([]:List Int)++s).length)) O (aJ<|br (k:=5) (xs:=List.map iZ (([]:List Int)++s)) O (v':=bv (([]:List Int)++s)) (bg O) (goZ (hfr _ O)<|hQ _ h)))))
theorem fy {s:List Int} {Q:List Int->Prop} (h:cU s Q) (hQ:∀r1,Q r1->R (ak r1) S) :
  Ctr prog 93 [ak s] S R:=by
 refine aG func93 rfl ntmps93 results93 krZ (λrg hrg=>?_)
 refine ah<|asZ .nil O<|nZ<|qZ<|ah<|mvZ (ak s) O<|Wl.isnil bk O O (λisnil hn=>?_)
 replace h:=h isnil hn
 refine nZ<|cZ h O (λhb h=>?_) (λhb h=>?_)
 ·exact ah<|asZ .nil O<|aE<|aB (v:=.nil) O<|aJ<|aO hrg (VW.nilL)<|hQ _ h
 exact kZ<|ah<|wZ rg<|bq bk dQ cM (es:=[]) O (kk:=1) O O O O O O (λg1=>mvZ (ak s) O<|tkZ h (λhg h=>wZ rg<|cF bk fV dQ cM (es:=([]:List Int)) (xs:=s) (enc:=AV.int .u32) (aZ 5 O) lzZ (O) (kk:=1) O O (λ_=>O) (λ_=>O) hg O (λ_=>aQ) (λg2=>asZ (.sl 1 rg 5 g2 0<|(([]:List Int)++s).length) O<|aE<|aB (v:=.sl 1 rg 5 g2 0 ((([]:List Int)++s).length)) O (aJ<|br (k:=5) (xs:=List.map (AV.int .u32) (([]:List Int)++s)) O (v':=ak (([]:List Int)++s)) (bg O) (goZ hrg<|hQ _ h)))))
def HD:Go.Shelf.Ren:=⟨λn=>if n == 22 then 28 else if n == 29 then 54 else if n == 30 then 55 else n,λn=>if n == 0 then 0 else if n == 3 then 3 else if n == 4 then 4 else if n == 9 then 54 else if n == 24 then 22 else n,λn=>n⟩
theorem HF:InsL prog HD 54 3 40 (.agg #[.int .i64 0,.slice none 0 0,.int .i64 0]) f28.name f54.name where
 bG:=by kernel_rfl
 f22:=func28.trans (congrArg some kR)
 f29:=func54.trans (congrArg some kR)
 n29:=by kernel_rfl
 o29:=by kernel_rfl
 x29:=by kernel_rfl
 t0:=underlying0
 a0:=isAgg0
 z0:=sizeOf0
 v0:=zeroValue0
 t3:=underlying3
 a3:=isAgg3
 z3:=sizeOf3
 v3:=zeroValue3
 t4:=underlying4
 a4:=isAgg4
 z4:=sizeOf4
 v4:=zeroValue4
 t24:=underlying22
 a24:=isAgg22
 z24:=sizeOf22
 v24:=zeroValue22
 z9:=sizeOf54
 i9:=by kernel_rfl
 k0:=by decide
 zc:=by kernel_rfl
def HE:Go.Shelf.Ren:=⟨λn=>if n == 22 then 34 else if n == 29 then 63 else if n == 30 then 64 else n,λn=>if n == 0 then 0 else if n == 3 then 3 else if n == 4 then 4 else if n == 9 then 28 else if n == 24 then 44 else n,λn=>n⟩
theorem HG:InsL prog HE 28 3 56 (.agg #[.bool false,.slice none 0 0,.slice none 0 0]) f34.name f63.name where
 bG:=by kernel_rfl
 f22:=func34.trans (congrArg some kR)
 f29:=func63.trans (congrArg some kR)
 n29:=by kernel_rfl
 o29:=by kernel_rfl
 x29:=by kernel_rfl
 t0:=underlying0
 a0:=isAgg0
 z0:=sizeOf0
 v0:=zeroValue0
 t3:=underlying3
 a3:=isAgg3
 z3:=sizeOf3
 v3:=zeroValue3
 t4:=underlying4
 a4:=isAgg4
 z4:=sizeOf4
 v4:=zeroValue4
 t24:=underlying44
 a24:=isAgg44
 z24:=sizeOf44
 v24:=zeroValue44
 z9:=sizeOf28
 i9:=by kernel_rfl
 k0:=by decide
 zc:=by kernel_rfl
end Go.Proofs.YtcmagbhiioheeaaGreat
namespace Go.Proofs.YtcmagbhiioheeaaGreat
open Go.Gg Tryz
set_option maxRecDepth 100000
variable {S:St} {R:AV->St->Prop}
theorem qC {x:GRat} {Q:Bool->Prop} (h:nE x Q) (hQ:∀r1,Q r1->R (AV.bool r1) S) :
  Ctr prog 78 [aq x] S R:=by
 refine aG func78 rfl ntmps78 results78 krZ (λrg hrg=>?_)
 exact ah<|wZ rg<|bA (v:=aq x) O O (kk:=3) O dZ (λg1=>asZ (.bool false) O<|aU<|ac<|ar (aZ 1 O) bb dZ bH O O (v:=aq x) O<|ac<|clZ O<|jx h λr h=>ac<|fQ O<|asZ (.bool<|!r) O<|aE<|gv1 hrg<|hQ _ h)
theorem eF {s:List GRat} {Q:Int->Prop} (h:bW s Q) (hQ:∀r1,Q r1->R (iZ r1) S) :
  Ctr prog 118 [eL aq s,.fn (.func 78) [] []] S R:=by
 refine aG func118 rfl ntmps118 results118 krZ (λrg hrg=>?_)
 refine ah<|asZ (iZ 0) O<|nZ<|qZ<|ah<|mvZ (eL aq s) O<|ac<|aK eE O<|mvZ (iZ 0) O<|nZ<|bZ<|lpZ h (λy=>a_ [(0,eL aq s),(1,.fn (.func 78) [] []),(7,iZ (s.length:Int)),(8,iZ y)]) (λy=>stL S rg []) (canon (aN<|fn)<|sn) (λx _ h=>ah<|ac<|bi O O<|nZ<|qZ<|cZ h O (λhb h=>?_) (λhb h=>?_))
 ·refine kZ<|qZ<|bZ<|ah<|mvZ (iZ x) O<|asZ (iZ x) O<|aU<|mvZ (.fn (.func 78) [] []) O<|mvZ (eL aq s) O<|mvZ (iZ x) O<|tkZ h (λhg h=>ac<|a9 eE bb dZ (λ_=>O) O O hg<|ac<|cz bb dZ bH O O (v:=aq (at' s x)) O<|ac<|clZ O<|qC h λr h=>nZ<|cZ h O (λhb1 h=>?_) (λhb1 h=>?_))
  ·exact ah<|mvZ (iZ x) O<|asZ (iZ x) O<|aE<|gv1 hrg<|hQ _ h
  exact kZ<|rZ<|tkZ h (λhg1 h=>ac<|aC O O hg1<|mvZ (iZ<|x+1) O<|nZ<|⟨(x+1),(canon (aN<|fn)<|sn),h⟩)
 exact xsZ<|ah<|asZ (iZ<|-1) O<|aE<|gv1 hrg<|hQ _ h
theorem dU {s:List GRat} {Q:Bool->Prop} (h:bx s Q) (hQ:∀r1,Q r1->R (AV.bool r1) S) :
  Ctr prog 77 [eL aq s,.fn (.func 78) [] []] S R:=by
 refine aG func77 rfl ntmps77 results77 krZ (λrg hrg=>?_)
 exact ah<|asZ (.bool false) O<|aU<|mvZ (eL aq s) O<|mvZ (.fn (.func 78) [] []) O<|ac<|clZ O<|eF h λr h=>ac<|fo O O<|asZ (.bool<|decide<|0<=r) O<|aE<|gv1 hrg<|hQ _ h
theorem iu {m:GMission} {Q:Option Int->Prop} (h:fP m Q) (hQ:∀r1,Q r1->R (aW 41 r1) S) :
  Ctr prog 40 [az m] S R:=by
 refine aG func40 rfl ntmps40 results40 krZ (λrg hrg=>?_)
 refine ah<|wZ rg<|bA (v:=az m) O O (kk:=2) O dZ (λg1=>asZ .niface O<|nZ<|qZ<|ah<|ac<|aF cy O<|ac<|af (aZ 1 O) fL gz O O (v:=eL am m.N) O<|ac<|aK fp O<|asZ (iZ (m.N.length:Int)) O<|nZ<|bZ<|ah<|mvZ (iZ (m.N.length:Int)) O<|ac<|bJ O O<|asZ (.bool<|(m.N.length:Int) == 0) O<|nZ<|cZ h O (λhb h=>?_) (λhb h=>?_))
 ·exact ah<|ac<|cp (by rw[gQ];trivial) (v:=iZ 11) O<|asZ (.iface 41<|iZ 11) O<|aE<|gv1 hrg<|hQ _ h
 refine ah<|mvZ (iZ (m.N.length:Int)) O<|ac<|cY O O<|asZ (.bool<|decide<|6<(m.N.length:Int)) O<|nZ<|cZ h O (λhb1 h=>?_) (λhb1 h=>?_)
 ·exact ah<|ac<|cp (by rw[gQ];trivial) (v:=iZ 4) O<|asZ (.iface 41<|iZ 4) O<|aE<|gv1 hrg<|hQ _ h
 refine kZ<|ah<|ac<|aF cy O<|ac<|af (aZ 1 O) fL gz O O (v:=eL am m.N) O<|tkZ h (λhg h=>ac<|a9 fp ck dZ (λ_=>O) O O hg<|ac<|faZ b8 O O<|ac<|aP sz3 ag3 O O (v:=iZ ((at' m.N 0).A)) O (asZ (iZ<|(at' m.N 0).A) O<|nZ<|qZ<|ah<|ac<|aF cy O<|ac<|af (aZ 1 O) fL gz O O (v:=eL am m.N) O<|ac<|aK fp O<|mvZ (iZ 0) O<|nZ<|bZ<|lpZ h (λy=>a_ [(1,.ptr rg 1 g1 0 0),(4,iZ ((at' m.N 0).A)),(27,eL am m.N),(28,iZ (m.N.length:Int)),(29,iZ y)]) (λy=>stL S rg [(1,.arr 2 [az m],g1)]) (canon (aN<|fZ<|fn)<|sc O<|sn) (λx _ h=>ah<|ac<|bi O O<|nZ<|qZ<|cZ h O (λhb2 h=>?_) (λhb2 h=>?_))))
 ·refine kZ<|qZ<|bZ<|ah<|tkZ h (λhg1 h=>ac<|a9 fp ck dZ (λ_=>O) O O hg1<|ac<|cz ck dZ fm O O (v:=am (at' m.N x)) O<|wZ rg<|aT eY ni (kk:=3) O (λg2=>ac<|ay (aZ 6 O) ck dZ O (w:=am (at' m.N x)) O O O (v:=am (at' m.N x)) O aQ<|nZ<|qZ<|ah<|ac<|ar (aZ 6 O) ck dZ fm O O (v:=am (at' m.N x)) O<|ac<|clZ O<|eA h λerr h=>asZ (aW 41 err) O<|aU<|mvZ (aW 41 err) O<|ac<|cH fX (E:=41) O O O<|nZ<|cZ h O (λhb3 h=>?_) (λhb3 h=>?_)))
  ·exact ah<|mvZ (aW 41 err) O<|asZ (aW 41 err) O<|aE<|gv1 hrg<|hQ _ h
  refine kZ<|ah<|ac<|aF b8 O<|ac<|af (aZ 6 O) sz3 ag3 O O (v:=iZ ((at' m.N x).A)) O (mvZ (iZ<|(at' m.N 0).A) O<|ac<|fA O O<|nZ<|cZ h O (λhb4 h=>?_) (λhb4 h=>?_))
  ·exact ah<|ac<|cp (by rw[gQ];trivial) (v:=iZ 11) O<|asZ (.iface 41<|iZ 11) O<|aE<|gv1 hrg<|hQ _ h
  exact kZ<|rZ<|tkZ h (λhg2 h=>ac<|aC O O hg2<|mvZ (iZ<|x+1) O<|nZ<|⟨(x+1),(canon (aN<|fZ<|fn)<|sc O<|sn),h⟩)
 refine xsZ<|qZ<|bZ<|ah<|mvZ (iZ<|(at' m.N 0).A) O<|ac<|aF cy O<|ac<|af (aZ 1 O) fL gz O O (v:=eL am m.N) O<|ac<|aK fp O<|tkZ h (λhg3 h=>ac<|i5 O O hg3<|ac<|cY O O<|asZ (.bool<|decide<|24<((at' m.N 0).A*(m.N.length:Int))) O (nZ<|cZ h O (λhb5 h=>?_) (λhb5 h=>?_)))
 ·exact ah<|ac<|cp (by rw[gQ];trivial) (v:=iZ 4) O<|asZ (.iface 41<|iZ 4) O<|aE<|gv1 hrg<|hQ _ h
 refine ah<|ac<|aF dO O<|ac<|af (aZ 1 O) jQ kK O O (v:=eL (eL aq) m.P) O<|ac<|aK iA O<|mvZ (iZ<|(at' m.N 0).A) O<|ac<|fA O O<|asZ (.bool<|(m.P.length:Int) != (at' m.N 0).A) O (nZ<|cZ h O (λhb6 h=>?_) (λhb6 h=>?_))
 ·exact ah<|ac<|cp (by rw[gQ];trivial) (v:=iZ 11) O<|asZ (.iface 41<|iZ 11) O<|aE<|gv1 hrg<|hQ _ h
 refine kZ<|qZ<|ah<|ac<|aF dO O<|ac<|af (aZ 1 O) jQ kK O O (v:=eL (eL aq) m.P) O<|ac<|aK iA O<|mvZ (iZ 0) O<|nZ<|bZ<|lpZ h (λy=>a_ [(1,.ptr rg 1 g1 0 0),(60,eL (eL aq) m.P),(61,iZ (m.P.length:Int)),(62,iZ y)]) (λy=>stL S rg [(1,.arr 2 [az m],g1)]) (canon (aN<|fn)<|sc O<|sn) (λx1 _ h=>ah<|ac<|bi O O<|nZ<|qZ<|cZ h O (λhb7 h=>?_) (λhb7 h=>?_))
 ·refine kZ<|qZ<|bZ<|ah<|tkZ h (λhg4 h=>ac<|a9 iA ji dZ (λ_=>O) O O hg4<|ac<|aP ji sk O O (v:=eL aq (at' m.P x1)) O<|asZ (eL aq<|at' m.P x1) O<|nZ<|qZ<|ah<|mvZ (eL aq<|at' m.P x1) O<|ac<|aK eE O<|ac<|aF cy O<|ac<|af (aZ 1 O) fL gz O O (v:=eL am m.N) O<|ac<|aK fp O<|ac<|fA O O<|nZ<|cZ h O (λhb8 h=>?_) (λhb8 h=>?_))
  ·exact ah<|ac<|cp (by rw[gQ];trivial) (v:=iZ 11) O<|asZ (.iface 41<|iZ 11) O<|aE<|gv1 hrg<|hQ _ h
  refine kZ<|ah<|mvZ (eL aq<|at' m.P x1) O<|ac<|clZ O<|dU h λr h=>nZ<|cZ h O (λhb9 h=>?_) (λhb9 h=>?_)
  ·exact ah<|ac<|cp (by rw[gQ];trivial) (v:=iZ 3) O<|asZ (.iface 41<|iZ 3) O<|aE<|gv1 hrg<|hQ _ h
  exact kZ<|rZ<|tkZ h (λhg5 h=>ac<|aC O O hg5<|mvZ (iZ<|x1+1) O<|nZ<|⟨(x1+1),(canon (aN<|fn)<|sc O<|sn),h⟩)
 exact xsZ<|ah<|asZ .niface O<|aE<|gv1 hrg<|hQ _ h
theorem ge {kind:Int} {k2:Int} {args:List Int} {A:Int} {F:Int} {V:List GNode} {q0 k0 g0 q1 k1 g1:Nat} (hdk:DK [(q0,k0),(q1,k1)]) {Q:List GNode->Int->Prop} (h:d9 kind k2 args A F V Q) (hQ:∀r1 r2,∀h1,Q r1 r2->R (iZ r2) (stX S [(q0,k0,.arr 3 [.agg [.int .i64 A,.sl 3 q1 k1 h1 0 r1.length,.int .i64 F]],g0),(q1,k1,.arr 3 (List.map aV r1),h1)])) :
  Ctr prog 66 [iZ kind,iZ k2,bv args,.ptr q0 k0 g0 0 0] (stX S [(q0,k0,.arr 3 [.agg [.int .i64 A,.sl 3 q1 k1 g1 0 V.length,.int .i64 F]],g0),(q1,k1,.arr 3 (List.map aV V),g1)]) R:=by
 refine aG func66 rfl ntmps66 results66 krZ (λrg hrg=>?_)
 have hdx:DX [(q0,k0,.arr 3 [.agg [.int .i64 A,.sl 3 q1 k1 g1 0 V.length,.int .i64 F]],g0),(q1,k1,.arr 3 (List.map aV V),g1)]:=hdk
 have hfr:=λX' e=>b7 (S:=S) (rg:=rg) (X:=[(q0,k0,.arr 3 [.agg [.int .i64 A,.sl 3 q1 k1 g1 0 V.length,.int .i64 F]],g0),(q1,k1,.arr 3 (List.map aV V),g1)]) (X':=X') e hrg
 have hne0:=aA hdx hrg 0 rfl
 have hne1:=aA hdx hrg 1 rfl
 exact ah<|asZ (iZ 0) O<|aU<|ac<|aF bQ O<|ac<|af (atX hne0 hdx 0 O) eu fv O O (v:=.sl 3 q1 k1 g1 0 V.length) O<|mvZ (iZ kind) O<|mvZ (iZ k2) O<|mvZ (bv args) O<|ac<|bC uH eJ tN tv eU (ps:=[(0,iZ kind),(1,iZ k2),(2,bv args)]) O O (v:=.agg [iZ kind,iZ k2,bv args]) O (wZ rg<|bq du kT eJ (es:=[.agg [iZ kind,iZ k2,bv args]]) O (kk:=3) O O O O O O (λg2=>tkZ h (λhg h=>wZ rg<|cF du xI kT eJ (es:=V) (xs:=[(⟨kind,k2,args⟩:GNode)]) (enc:=aV) (atX hne1 hdx 1 O) lzZ (bI (aZ 14 O) lzZ) (kk:=3) O O (λ_=>O) (λ_=>O) hg O (λ_=>(bX hne1 hdx 1 O O)) (λg3=>ac<|aF bQ O<|ac<|ay (atX hne0 hdx 0 O) eu dZ O (w:=.sl 3 q1 k1 g3 0 ((V++[(⟨kind,k2,args⟩:GNode)]).length)) O O O (v:=.agg [iZ A,.sl 3 q1 k1 g3 0 ((V++[(⟨kind,k2,args⟩:GNode)]).length),iZ F]) O (bX hne0 hdx 0 O O) (aU<|ac<|aF b8 O<|ac<|af (atX hne0 hdx 0 O) sz3 ag3 O O (v:=iZ A) O<|ac<|aF bQ O<|ac<|af (atX hne0 hdx 0 O) eu fv O O (v:=.sl 3 q1 k1 g3 0 ((V++[(⟨kind,k2,args⟩:GNode)]).length)) O (ac<|fG du O<|tkZ h (λhg1 h=>ac<|aC O O hg1<|tkZ h (λhg2 h=>ac<|bL O O hg2<|asZ (iZ<|(A+((V++[(⟨kind,k2,args⟩:GNode)]).length:Int))-1) O (aE<|gv1 (hfr _ O)<|hQ _ _ _ h)))))))))
theorem jy {arg:Int} {u:GFormula} {u1:Int} {u2:Int} {u3:List (List Int)} {q0 k0 g0 q1 k1 g1 q2 k2 g2 q3 k3 g3 q4 k4 g4:Nat} (hdk:DK [(q0,k0),(q1,k1),(q2,k2),(q3,k3),(q4,k4)]) {Q:Int->Prop} (h:d8 arg u u1 u2 u3 Q) (hQ:∀r1,Q r1->R (iZ r1) (stX S [(q0,k0,.arr 3 [am u],g0),(q1,k1,.arr 1 [.sl 1 q4 k4 g4 0 u3.length],g1),(q2,k2,.arr 1 [.int .i64 u1],g2),(q3,k3,.arr 1 [.int .i64 u2],g3),(q4,k4,.arr 1 (List.map bv u3),g4)])) :
  Ctr prog 67 [iZ arg,.ptr q0 k0 g0 0 0,.ptr q1 k1 g1 0 0,.ptr q2 k2 g2 0 0,.ptr q3 k3 g3 0 0] (stX S [(q0,k0,.arr 3 [am u],g0),(q1,k1,.arr 1 [.sl 1 q4 k4 g4 0 u3.length],g1),(q2,k2,.arr 1 [.int .i64 u1],g2),(q3,k3,.arr 1 [.int .i64 u2],g3),(q4,k4,.arr 1 (List.map bv u3),g4)]) R:=by
 refine aG func67 rfl ntmps67 results67 krZ (λrg hrg=>?_)
 have hdx:DX [(q0,k0,.arr 3 [am u],g0),(q1,k1,.arr 1 [.sl 1 q4 k4 g4 0 u3.length],g1),(q2,k2,.arr 1 [.int .i64 u1],g2),(q3,k3,.arr 1 [.int .i64 u2],g3),(q4,k4,.arr 1 (List.map bv u3),g4)]:=hdk
 have hfr:=λX' e=>b7 (S:=S) (rg:=rg) (X:=[(q0,k0,.arr 3 [am u],g0),(q1,k1,.arr 1 [.sl 1 q4 k4 g4 0 u3.length],g1),(q2,k2,.arr 1 [.int .i64 u1],g2),(q3,k3,.arr 1 [.int .i64 u2],g3),(q4,k4,.arr 1 (List.map bv u3),g4)]) (X':=X') e hrg
 have hne0:=aA hdx hrg 0 rfl
 have hne1:=aA hdx hrg 1 rfl
 have hne2:=aA hdx hrg 2 rfl
 have hne3:=aA hdx hrg 3 rfl
 have hne4:=aA hdx hrg 4 rfl
 refine ah<|asZ (iZ 0) O<|nZ<|qZ<|ah<|mvZ (iZ arg) O<|ac<|aF b8 O<|ac<|af (atX hne0 hdx 0 O) sz3 ag3 O O (v:=iZ u.A) O<|ac<|bi O O<|nZ<|cZ h O (λhb h=>?_) (λhb h=>?_)
 ·exact qZ<|tkZ h (λhi h=>tkZ h (λhg h=>Vc.drawn' bG rg (λ_=>gN) krZ<|dL (E:=([(q1,k1)],[])) O O zSm (cfn) (af (atX hne1 hdx 1 O) Az C8 O O (v:=.sl 1 q4 k4 g4 0 u3.length) O<|dP O O<|aD (v:=iZ arg) O<|dP O O<|bh Ax ep dZ O O hi<|dL (E:=([(q4,k4)],[])) O O zSm (cfo krZ<|cfn) (bY (atX hne4 hdx 4 O) ep ig O (bE hi lzZ) O (v:=bv (at' u3 arg)) O<|dL (E:=([(q2,k2)],[])) O O zSm (cfa zAp<|cfa zAp<|cfn) (af (atX hne2 hdx 2 O) sz3 ag3 O O (v:=iZ u1) O<|dP O O<|a9 bK sz3 dZ (λ_=>O) O O hg<|dP O O<|aP sz3 ag3 O O (v:=iZ (at' (at' u3 arg) u1)) O (dP O O<|a8 (v:=iZ (at' (at' u3 arg) u1)) O (dN<|uZ<|gv1 (hfr _ O)<|hQ _ h)))))))
 exact kZ<|ah<|ac<|af (atX hne3 hdx 3 O) sz3 ag3 O O (v:=iZ u2) O<|mvZ (iZ arg) O<|tkZ h (λhg1 h=>ac<|aC O O hg1<|ac<|aF b8 O<|ac<|af (atX hne0 hdx 0 O) sz3 ag3 O O (v:=iZ u.A) O<|tkZ h (λhg2 h=>ac<|bL O O hg2<|asZ (iZ<|(u2+arg)-u.A) O<|aE<|gv1 (hfr _ O)<|hQ _ h))
set_option maxHeartbeats 4000000 in
theorem rr {m:GMission} {Q:GFormula->List GRat->Option Int->Prop} (h:kS m Q) (hQ:∀r1 r2 r3,Q r1 r2 r3->R (.tuple [am r1,eL aq r2,aW 41 r3]) S) :
  Ctr prog 36 [az m] S R:=by
 refine aG func36 rfl ntmps36 results36 krZ (λrg hrg=>?_)
 refine ah<|wZ rg<|bA (v:=az m) O O (kk:=2) O dZ (λg1=>wZ rg<|aT eY ni (kk:=3) O (λg2=>asZ .nil O<|asZ .niface O<|nZ<|qZ<|ah<|ac<|ar (aZ 1 O) c_ dZ eP O O (v:=az m) O<|ac<|clZ O<|iu h λerr h=>asZ (aW 41 err) O<|aU<|mvZ (aW 41 err) O<|ac<|cH fX (E:=41) O O O<|nZ<|cZ h O (λhb h=>?_) (λhb h=>?_)))
 ·exact ah<|ac<|bC sy eY qq qd ck (ps:=[]) O O (v:=.agg [iZ 0,.nil,iZ 0]) O<|mvZ (aW 41 err) O<|ac<|ay (aZ 2 O) ck dZ O (w:=.agg [iZ 0,.nil,iZ 0]) O O O (v:=.agg [iZ 0,.nil,iZ 0]) O aQ<|asZ .nil O<|asZ (aW 41 err) O<|aE<|be (aZ 2 O) ck dZ fm O O (v:=.agg [iZ 0,.nil,iZ 0]) O<|aB (v:=.nil) O<|aB (v:=aW 41 err) O<|aJ<|aO hrg (VW.tupL<|vl' (VW.aggL<|vZ<|vl' (VW.nilL)<|vZ<|vn)<|vl' (VW.nilL)<|vZ<|vn)<|hQ _ _ _ h
 refine kZ<|qZ<|Vc.drawn' bG rg (λ_=>gN) krZ<|dP O O<|aF cy O<|dL (E:=([(rg,1)],[])) O O zSm (cfn) (af (aZ 1 O) fL gz O O (v:=eL am m.N) O<|dP O O<|aK fp O<|dP O O<|aF dO O<|dL (E:=([(rg,1)],[])) O O zSm (cfa zAp<|cfn) (af (aZ 1 O) jQ kK O O (v:=eL (eL aq) m.P) O<|dP O O<|aK iA O<|dP O O<|a8 (v:=iZ (m.N.length:Int)) O<|dP O O<|a8 (v:=iZ (m.P.length:Int)) O<|dN<|ah<|mvZ (iZ (m.P.length:Int)) O<|mvZ (iZ (m.N.length:Int)) O<|tkZ h (λhg h=>ac<|i5 O O hg<|ac<|bC sy eY qq qd ck (ps:=[(0,iZ ((m.P.length:Int)*(m.N.length:Int)))]) O O (v:=.agg [iZ ((m.P.length:Int)*(m.N.length:Int)),.nil,iZ 0]) O (wZ rg<|aT eY ni (kk:=3) O (λg3=>ac<|ay (aZ 8 O) ck dZ O (w:=.agg [iZ ((m.P.length:Int)*(m.N.length:Int)),.nil,iZ 0]) O O O (v:=.agg [iZ ((m.P.length:Int)*(m.N.length:Int)),.nil,iZ 0]) O aQ (aU<|wZ rg<|qD (vs:=[]) (us:=[.ptr rg 8 g3 0 0]) O O<|asZ (.fn (.func 66) [] [.ptr rg 8 g3 0 0]) O<|aU<|mvZ (iZ (m.P.length:Int)) O<|tkZ h (λhg1 h=>wZ rg<|uw Ax IK Ja H8 (kk:=1) O O O hg1 (λg4=>Wl.fam 1 iZ (K:=47) O dZ (λrf gs hrf nrf=>wZ rg<|aT H7 I_ (kk:=1) O (λg5=>?_))))))))))
 refine ac<|ay (aZ 10 O) Az dZ O (w:=.sl 1 rg 47 g4 0 (Int.toNat (m.P.length:Int))) O O O (v:=.sl 1 rg 47 g4 0 (Int.toNat (m.P.length:Int))) O aQ (nZ<|qZ<|ah<|ac<|af (aZ 10 O) Az C8 O O (v:=.sl 1 rg 47 g4 0 (Int.toNat (m.P.length:Int))) O (ac<|fG Ax O<|mvZ (iZ 0) O<|nZ<|bZ<|Vc.matB 8 1 9001 3 (b:=λg6=>.agg [iZ ((m.P.length:Int)*(m.N.length:Int)),.sl 3 rg 9001 g6 0 0,iZ 0]) O O dZ dZ O (λg6=>?_)))
 refine lgZ h (g6,gs) (λy=>a_ [(1,.ptr rg 1 g1 0 0),(2,.ptr rg 2 g2 0 0),(6,iZ (m.N.length:Int)),(8,.ptr rg 8 g3 0 0),(9,.fn (.func 66) [] [.ptr rg 8 g3 0 0]),(10,.ptr rg 10 g5 0 0),(49,iZ ((Int.toNat (m.P.length:Int)):Int)),(50,iZ y.1.1)]) (λy=>stL (dz S rf 1 iZ y.2.2 y.1.2.1) rg [(1,.arr 2 [az m],g1),(2,.arr 3 [.agg [iZ 0,.nil,iZ 0]],g2),(8,.arr 3 [.agg [iZ ((m.P.length:Int)*(m.N.length:Int)),.sl 3 rg 9001 y.2.1 0 y.1.2.2.length,iZ 0]],g3),(10,.arr 1 [.sl 1 rg 47 g4 0 y.1.2.1.length],g5),(47,.arr 1 (fC rf 1 y.2.2 y.1.2.1),g4),(9001,.arr 3 (List.map aV y.1.2.2),y.2.1)]) (EWk.trans (EWk.ow (k:=8) (o':=.arr 3 [.agg [iZ ((m.P.length:Int)*(m.N.length:Int)),.sl 3 rg 9001 g6 0 ([].length),iZ 0]]) O (OW.one<|VWL.vwc<|vZ<|vl' (VW.slen lzZ)<|vZ<|vn)) (EWk.trans (EWk.ow (k:=10) (o':=.arr 1 [.sl 1 rg 47 g4 0 ((bT (m.P.length:Int) []).length)]) O (OW.one<|VWL.vwc<|vl' (VW.slen lzZ)<|vn)) (canon (aN<|aN<|fn)<|ct O O O O<|sc O<|sc O<|sn))) (λy _ h=>?_)
 obtain⟨⟨x,x1,x2⟩,⟨g7,g8⟩⟩:=y
 refine ah<|ac<|bi O O<|nZ<|qZ<|cZ h O (λhb1 h=>?_) (λhb1 h=>?_)
 ·refine kZ<|qZ<|bZ<|ah<|mvZ (iZ x) O<|asZ (iZ x) O<|aU<|asZ .nil O<|aU<|mvZ (iZ (m.N.length:Int)) O<|mvZ (iZ 0) O<|nZ<|bZ<|Vc.mat 12 64 1 O dZ (λg9=>lgZ h (g9,g7,g8) (λy=>a_ [(1,.ptr rg 1 g1 0 0),(2,.ptr rg 2 g2 0 0),(6,iZ (m.N.length:Int)),(8,.ptr rg 8 g3 0 0),(9,.fn (.func 66) [] [.ptr rg 8 g3 0 0]),(10,.ptr rg 10 g5 0 0),(11,iZ x),(12,.sl 1 rg 64 y.2.1 0 y.1.2.2.1.length),(49,iZ ((Int.toNat (m.P.length:Int)):Int)),(50,iZ x),(53,iZ (m.N.length:Int)),(54,iZ y.1.1)]) (λy=>stL (dz S rf 1 iZ y.2.2.2 y.1.2.1) rg [(1,.arr 2 [az m],g1),(2,.arr 3 [.agg [iZ 0,.nil,iZ 0]],g2),(8,.arr 3 [.agg [iZ ((m.P.length:Int)*(m.N.length:Int)),.sl 3 rg 9001 y.2.2.1 0 y.1.2.2.2.length,iZ 0]],g3),(10,.arr 1 [.sl 1 rg 47 g4 0 y.1.2.1.length],g5),(47,.arr 1 (fC rf 1 y.2.2.2 y.1.2.1),g4),(64,.arr 1 (List.map iZ y.1.2.2.1),y.2.1),(9001,.arr 3 (List.map aV y.1.2.2.2),y.2.2.1)]) (canon (aN<|fZ<|fZ<|fZ<|fc (VW.slen lzZ)<|aN<|fn)<|ct O O O O<|sc O<|sc O<|sc O<|sn) (λy _ h=>?_))
  obtain⟨⟨x3,x4,so,x5⟩,⟨g10,g11,g12⟩⟩:=y
  refine ah<|ac<|bi O O<|nZ<|qZ<|cZ h O (λhb2 h=>?_) (λhb2 h=>?_)
  ·refine kZ<|qZ<|bZ<|ah<|mvZ (iZ x3) O<|asZ (iZ x3) O<|aU<|mvZ (.sl 1 rg 64 g10 0 so.length) O<|mvZ (iZ x) O<|mvZ (iZ (m.N.length:Int)) O<|tkZ h (λhg2 h=>ac<|i5 O O hg2<|mvZ (iZ x3) O<|tkZ h (λhg3 h=>ac<|aC O O hg3<|wZ rg<|bq bK ok3 fD (es:=[iZ ((x*(m.N.length:Int))+x3)]) O (kk:=1) O O O O O O (λg13=>tkZ h (λhg4 h=>wZ rg<|cF bK nt ok3 fD (es:=so) (xs:=[((x*(m.N.length:Int))+x3)]) (enc:=iZ) (aZ 64 O) lzZ (bI (aZ 63 O) lzZ) (kk:=1) O O (λ_=>O) (λ_=>O) hg4 O (λ_=>aQ) (λg14=>asZ (.sl 1 rg 64 g14 0<|(so++[((x*(m.N.length:Int))+x3)]).length) O (aU<|mvZ (iZ x3) O<|ac<|bJ O O<|nZ<|cZ h O (λhb3 h=>?_) (λhb3 h=>?_)))))))
   ·refine tkZ h (λhi h=>tkZ h (λhi1 h=>tkZ h (λhg5 h=>tkZ h (λhi2 h=>Vc.drawn' bG rg (λ_=>gN) krZ<|dL (E:=([(rg,10)],[])) O O zSm (cfn) (af (aZ 10 O) Az C8 O O (v:=.sl 1 rg 47 g4 0 x4.length) O<|dP O O<|aD (v:=iZ x) O<|dL (E:=([(rg,10)],[])) O O zSm (cfa zAp<|cfn) (af (aZ 10 O) Az C8 O O (v:=.sl 1 rg 47 g4 0 x4.length) O<|dP O O<|aD (v:=iZ x) O<|dP O O<|bh Ax ep dZ O O hi<|dL (E:=([(rg,47)],[])) O O zSm (cfo krZ<|cfa zAp<|cfn) (yj (aZ 47 O) ep ig O (bE hi lzZ)<|dP O O<|aD (v:=.sl 1 rg 64 g14 0 ((so++[((x*(m.N.length:Int))+x3)]).length)) O (dP O O<|bh bK sz3 dZ O O hi1<|dL (E:=([(rg,64)],[])) O O zSm (cfa zAp<|cfa zAp<|cfa zAp<|cfn) (bY (aZ 64 O) sz3 ag3 O (bE hi1 lzZ) O (v:=iZ (at' (so++[((x*(m.N.length:Int))+x3)]) 0)) O (dL (E:=([],[(rg,76)])) O O zSm (cfo krZ<|cfa zAp<|cfa zAp<|cfa zAp<|cfn) (bq bK ok3 fD (es:=[iZ (at' (so++[((x*(m.N.length:Int))+x3)]) 0)]) O (kk:=1) O O O O O O (λg15=>?_))))))))))))
    exact dL (E:=([(rg,76)],[(rf,Int.toNat x)])) O O zSm (cfo krZ<|cfo krZ<|cfo krZ<|cfo krZ<|cfa (by simp[lj,hrf])<|cfn) (D_ hrf bK nt ok3 fD (bE hi lzZ) O lzZ (xs:=[(at' (so++[((x*(m.N.length:Int))+x3)]) 0)]) (enc:=iZ) (bI (aZ 76 O) lzZ) (kk:=1) O O (λ_=>O) (λ_=>O) hg5 O (λg16=>dP O O<|bh Ax ep dZ O O hi2<|dL (E:=([],[(rg,47)])) O O zSm (cfo krZ<|cfo krZ<|cfo krZ<|cfo krZ<|cfo krZ<|cfo krZ<|cfn) (vG (aZ 47 O) ep O O (bE hi2 lzZ) (l:=(at' x4 x++[(at' (so++[((x*(m.N.length:Int))+x3)]) 0)])) O aQ (dN<|rZ<|tkZ h (λhg6 h=>ac<|aC O O hg6<|mvZ (iZ<|x3+1) O<|nZ<|⟨(((x3+1),(bu x4 x<|at' x4 x++[(at' (so++[((x*(m.N.length:Int))+x3)]) 0)]),(so++[((x*(m.N.length:Int))+x3)]),x5),(g14,g11,(kz g12 (Int.toNat x) g16))),(EWk.trans (EWk.ow (k:=10) (o':=.arr 1 [.sl 1 rg 47 g4 0 ((bu x4 x<|at' x4 x++[(at' (so++[((x*(m.N.length:Int))+x3)]) 0)]).length)]) O (OW.one<|VWL.vwc<|vl' (VW.slen lzZ)<|vn)) (canon (aN<|aN<|aN<|fn)<|ct O O O O<|sc O<|sc O<|sc O<|sn)),h⟩)))))
   refine tkZ h (λhi3 h=>?_)
   obtain⟨r,hc,h⟩:=h
   obtain⟨u,r1,hc1,h⟩:=h
   refine tkZ h (λhg7 h=>tkZ h (λhi4 h=>Vc.drawn' bG rg (gk [(8,wc (λ_=>bv r) [(rg,64)] [] (λ_=>[])),(9,wc (λ_=>iZ r1) [] [(rg,8),(rg,9001)] (λgm1=>[(rg,8,.arr 3 [.agg [iZ ((m.P.length:Int)*(m.N.length:Int)),.sl 3 rg 9001 (gm1 0) 0 u.length,iZ 0]],g3),(rg,9001,.arr 3 (List.map aV u),(gm1 0))]))]) krZ (dL (E:=([(rg,10)],[])) O O zSm (cfn) (af (aZ 10 O) Az C8 O O (v:=.sl 1 rg 47 g4 0 x4.length) O<|dP O O<|aD (v:=iZ x) O<|dL (E:=([(rg,10)],[])) O O zSm (cfa zAp<|cfn) (af (aZ 10 O) Az C8 O O (v:=.sl 1 rg 47 g4 0 x4.length) O<|dP O O<|aD (v:=iZ x) O<|dP O O<|bh Ax ep dZ O O hi3<|dL (E:=([(rg,47)],[])) O O zSm (cfo krZ<|cfa zAp<|cfn) (yj (aZ 47 O) ep ig O (bE hi3 lzZ)<|dP O O<|aD (v:=.fn (.func 66) [] [.ptr rg 8 g3 0 0]) O<|dP O O<|aD (v:=.sl 1 rg 64 g14 0 ((so++[((x*(m.N.length:Int))+x3)]).length)) O ?_))))))
   refine dCE (vs:=[.sl 1 rg 64 g14 0 ((so++[((x*(m.N.length:Int))+x3)]).length)]) (V:=λ_=>bv r) (rd:=[(rg,64)]) (wk:=[]) (wr:=λ_=>[]) rfl (vZ<|vn) rfl (cfa zAp<|cfa zAp<|cfa zAp<|cfn) zSm (λ_=>rfl) (λS' hA hB=>eX (aw (ag hA 0 rfl<|aZ 64 rfl)<|cd)<|kC (aM (aL)<|fl) hc (λ_ he=>by obtain rfl:=he;exact⟨λi=>([]:List Nat).getD i 0,rfl,aw (ag hA 0 rfl<|aZ 64 rfl) (cd)⟩)) (λ_=>j_ (wH)<|dCE (vs:=[iZ 3,iZ 0,bv r,.ptr rg 8 g3 0 0]) (V:=λ_=>iZ r1) (rd:=[]) (wk:=[(rg,8),(rg,9001)]) (wr:=λgm1=>[(rg,8,.arr 3 [.agg [iZ ((m.P.length:Int)*(m.N.length:Int)),.sl 3 rg 9001 (gm1 0) 0 u.length,iZ 0]],g3),(rg,9001,.arr 3 (List.map aV u),(gm1 0))]) rfl (vZ<|vZ<|vZ<|vZ<|vn) rfl (cfo krZ<|cfa zAp<|cfa zAp<|cfa zAp<|cfn) zSm (λ_=>rfl) (λS' hA hB=>eX (aw (ag hB 0 rfl<|aZ 8 rfl)<|aw (ag hB 1 rfl<|aZ 9001 rfl)<|cd)<|ge (aM (aj (bF rfl)<|aL)<|aM (aL)<|fl) hc1 (λ_ _ h1 he=>by obtain⟨rfl,rfl⟩:=he;exact⟨λi=>[h1].getD i 0,rfl,tQ (tQ<|cd)⟩)) (λgm1=>j_ (qX (qX (wH) aQ) aQ) ?_))
   exact dL (E:=([],[(rg,89)])) O O zSm (cfo krZ<|cfo krZ<|cfa zAp<|cfa zAp<|cfa zAp<|cfn) (bq bK ok3 fD (es:=[iZ r1]) O (kk:=1) O O O O O O (λg17=>dL (E:=([(rg,89)],[(rf,Int.toNat x)])) O O zSm (cfo krZ<|cfo krZ<|cfo krZ<|cfo krZ<|cfo krZ<|cfa (by simp[lj,hrf])<|cfn) (D_ hrf bK nt ok3 fD (bE hi3 lzZ) O lzZ (xs:=[r1]) (enc:=iZ) (bI (aZ 89 O) lzZ) (kk:=1) O O (λ_=>O) (λ_=>O) hg7 O (λg18=>dP O O<|bh Ax ep dZ O O hi4<|dL (E:=([],[(rg,47)])) O O zSm (cfo krZ<|cfo krZ<|cfo krZ<|cfo krZ<|cfo krZ<|cfo krZ<|cfo krZ<|cfn) (vG (aZ 47 O) ep O O (bE hi4 lzZ) (l:=(at' x4 x++[r1])) O aQ<|dN<|rZ<|tkZ h (λhg8 h=>ac<|aC O O hg8<|mvZ (iZ<|x3+1) O<|nZ<|⟨(((x3+1),(bu x4 x<|at' x4 x++[r1]),(so++[((x*(m.N.length:Int))+x3)]),u),(g14,(gm1 0),(kz g12 (Int.toNat x) g18))),(EWk.trans (EWk.ow (k:=10) (o':=.arr 1 [.sl 1 rg 47 g4 0 ((bu x4 x<|at' x4 x++[r1]).length)]) O (OW.one<|VWL.vwc<|vl' (VW.slen lzZ)<|vn)) (canon (aN<|aN<|aN<|fn)<|ct O O O O<|sc O<|sc O<|sc O<|sn)),h⟩))))))
  exact xsZ<|rZ<|tkZ h (λhg9 h=>ac<|aC O O hg9<|mvZ (iZ<|x+1) O<|nZ<|⟨(((x+1),x4,x5),(g11,g12)),(canon (aN<|aN<|fn)<|ct O O O O<|sc O<|sc O<|sn),h⟩)
 refine xsZ<|ah<|asZ .nil O<|nZ<|qZ<|ah<|ac<|aF cy O<|ac<|af (aZ 1 O) fL gz O O (v:=eL am m.N) O<|ac<|aK fp O<|mvZ (iZ 0) O<|nZ<|bZ<|EV (EWk.unfam hrf nrf (K:=47) O)<|Vc.mat 14 144 1 O dZ (λg19=>lgZ h (g19,g7) (λy=>a_ [(1,.ptr rg 1 g1 0 0),(2,.ptr rg 2 g2 0 0),(6,iZ (m.N.length:Int)),(8,.ptr rg 8 g3 0 0),(9,.fn (.func 66) [] [.ptr rg 8 g3 0 0]),(10,.ptr rg 10 g5 0 0),(14,.sl 1 rg 144 y.2.1 0 y.1.2.1.length),(95,eL am m.N),(96,iZ (m.N.length:Int)),(97,iZ y.1.1)]) (λy=>stL S rg [(1,.arr 2 [az m],g1),(2,.arr 3 [.agg [iZ 0,.nil,iZ 0]],g2),(8,.arr 3 [.agg [iZ ((m.P.length:Int)*(m.N.length:Int)),.sl 3 rg 9001 y.2.2 0 y.1.2.2.length,iZ 0]],g3),(10,.arr 1 [.sl 1 rg 47 g4 0 x1.length],g5),(47,.arr 1 (List.map bv x1),g4),(144,.arr 1 (List.map iZ y.1.2.1),y.2.1),(9001,.arr 3 (List.map aV y.1.2.2),y.2.2)]) (canon (aN<|fZ<|fZ<|fc (VW.slen lzZ)<|fZ<|fZ<|fZ<|fn)<|ct O O O O<|sc O<|sc O<|sc O<|sn) (λy _ h=>?_))
 obtain⟨⟨x6,tops,x7⟩,⟨g20,g21⟩⟩:=y
 refine ah<|ac<|bi O O<|nZ<|qZ<|cZ h O (λhb4 h=>?_) (λhb4 h=>?_)
 ·refine kZ<|qZ<|bZ<|ah<|mvZ (iZ x6) O<|tkZ h (λhg10 h=>ac<|a9 fp ck dZ (λ_=>O) O O hg10<|ac<|cz ck dZ fm O O (v:=am (at' m.N x6)) O<|wZ rg<|aT fD ok3 (kk:=1) O (λg22=>wZ rg<|aT eY ni (kk:=3) O (λg23=>ac<|ay (aZ 15 O) sz3 dZ O (w:=iZ x6) O O O (v:=iZ x6) O aQ<|ac<|ay (aZ 16 O) ck dZ O (w:=am (at' m.N x6)) O O O (v:=am (at' m.N x6)) O aQ<|aU<|ac<|aF b8 O<|ac<|af (aZ 8 O) sz3 ag3 O O (v:=iZ ((m.P.length:Int)*(m.N.length:Int))) O (ac<|aF bQ O<|ac<|af (aZ 8 O) eu fv O O (v:=.sl 3 rg 9001 g21 0 x7.length) O<|ac<|fG du O<|tkZ h (λhg11 h=>ac<|aC O O hg11<|wZ rg<|aT fD ok3 (kk:=1) O (λg24=>ac<|ay (aZ 17 O) sz3 dZ O (w:=iZ (((m.P.length:Int)*(m.N.length:Int))+(x7.length:Int))) O O O (v:=iZ (((m.P.length:Int)*(m.N.length:Int))+(x7.length:Int))) O aQ (aU<|wZ rg<|qD (vs:=[]) (us:=[.ptr rg 16 g23 0 0,.ptr rg 10 g5 0 0,.ptr rg 15 g22 0 0,.ptr rg 17 g24 0 0]) O O<|asZ (.fn (.func 67) [] [.ptr rg 16 g23 0 0,.ptr rg 10 g5 0 0,.ptr rg 15 g22 0 0,.ptr rg 17 g24 0 0]) O<|nZ<|qZ<|ah<|ac<|aF bQ O<|ac<|af (aZ 16 O) eu fv O O (v:=eL aV ((at' m.N x6).V)) O (ac<|aK du O<|mvZ (iZ 0) O<|nZ<|bZ ?_))))))))
  refine lgZ h g21 (λy=>a_ [(1,.ptr rg 1 g1 0 0),(2,.ptr rg 2 g2 0 0),(6,iZ (m.N.length:Int)),(8,.ptr rg 8 g3 0 0),(9,.fn (.func 66) [] [.ptr rg 8 g3 0 0]),(10,.ptr rg 10 g5 0 0),(14,.sl 1 rg 144 g20 0 tops.length),(16,.ptr rg 16 g23 0 0),(18,.fn (.func 67) [] [.ptr rg 16 g23 0 0,.ptr rg 10 g5 0 0,.ptr rg 15 g22 0 0,.ptr rg 17 g24 0 0]),(95,eL am m.N),(96,iZ (m.N.length:Int)),(97,iZ x6),(110,eL aV ((at' m.N x6).V)),(111,iZ (((at' m.N x6).V).length:Int)),(112,iZ y.1.1)]) (λy=>stL S rg [(1,.arr 2 [az m],g1),(2,.arr 3 [.agg [iZ 0,.nil,iZ 0]],g2),(8,.arr 3 [.agg [iZ ((m.P.length:Int)*(m.N.length:Int)),.sl 3 rg 9001 y.2 0 y.1.2.length,iZ 0]],g3),(10,.arr 1 [.sl 1 rg 47 g4 0 x1.length],g5),(15,.arr 1 [iZ x6],g22),(16,.arr 3 [am (at' m.N x6)],g23),(17,.arr 1 [iZ (((m.P.length:Int)*(m.N.length:Int))+(x7.length:Int))],g24),(47,.arr 1 (List.map bv x1),g4),(144,.arr 1 (List.map iZ tops),g20),(9001,.arr 3 (List.map aV y.1.2),y.2)]) (canon (aN<|aN<|aN<|fZ<|fZ<|fZ<|fn)<|ct O O O O<|ct O O O O<|sc O<|sc O<|sn) (λy _ h=>?_)
  obtain⟨⟨x8,x9⟩,g25⟩:=y
  refine ah<|ac<|bi O O<|nZ<|qZ<|cZ h O (λhb5 h=>?_) (λhb5 h=>?_)
  ·refine kZ<|qZ<|bZ<|ah<|tkZ h (λhg12 h=>ac<|a9 du eU dZ (λ_=>O) O O hg12<|ac<|cz eU dZ uj O O (v:=aV (at' ((at' m.N x6).V) x8)) O (wZ rg<|aT eJ kT (kk:=3) O (λg26=>ac<|ay (aZ 20 O) eU dZ O (w:=aV (at' ((at' m.N x6).V) x8)) O O O (v:=aV (at' ((at' m.N x6).V) x8)) O aQ (aU<|asZ .nil O<|nZ<|qZ<|ah<|ac<|aF dA O<|ac<|af (aZ 20 O) ep ig O O (v:=bv ((at' ((at' m.N x6).V) x8).M)) O (ac<|aK bK O<|mvZ (iZ 0) O<|nZ<|bZ<|Vc.mat 21 128 1 O dZ (λg27=>?_))))))
   refine lgZ h g27 (λy=>a_ [(1,.ptr rg 1 g1 0 0),(2,.ptr rg 2 g2 0 0),(6,iZ (m.N.length:Int)),(8,.ptr rg 8 g3 0 0),(9,.fn (.func 66) [] [.ptr rg 8 g3 0 0]),(10,.ptr rg 10 g5 0 0),(14,.sl 1 rg 144 g20 0 tops.length),(16,.ptr rg 16 g23 0 0),(18,.fn (.func 67) [] [.ptr rg 16 g23 0 0,.ptr rg 10 g5 0 0,.ptr rg 15 g22 0 0,.ptr rg 17 g24 0 0]),(20,.ptr rg 20 g26 0 0),(21,.sl 1 rg 128 y.2 0 y.1.2.length),(95,eL am m.N),(96,iZ (m.N.length:Int)),(97,iZ x6),(110,eL aV ((at' m.N x6).V)),(111,iZ (((at' m.N x6).V).length:Int)),(112,iZ x8),(117,bv ((at' ((at' m.N x6).V) x8).M)),(118,iZ (((at' ((at' m.N x6).V) x8).M).length:Int)),(119,iZ y.1.1)]) (λy=>stL S rg [(1,.arr 2 [az m],g1),(2,.arr 3 [.agg [iZ 0,.nil,iZ 0]],g2),(8,.arr 3 [.agg [iZ ((m.P.length:Int)*(m.N.length:Int)),.sl 3 rg 9001 g25 0 x9.length,iZ 0]],g3),(10,.arr 1 [.sl 1 rg 47 g4 0 x1.length],g5),(15,.arr 1 [iZ x6],g22),(16,.arr 3 [am (at' m.N x6)],g23),(17,.arr 1 [iZ (((m.P.length:Int)*(m.N.length:Int))+(x7.length:Int))],g24),(20,.arr 3 [aV (at' ((at' m.N x6).V) x8)],g26),(47,.arr 1 (List.map bv x1),g4),(128,.arr 1 (List.map iZ y.1.2),y.2),(144,.arr 1 (List.map iZ tops),g20),(9001,.arr 3 (List.map aV x9),g25)]) (canon (aN<|aN<|fZ<|fZ<|fc (VW.slen lzZ)<|aN<|aN<|fZ<|fn)<|ct O O O O<|ct O O O O<|ct O O O O<|sn) (λy _ h=>?_)
   obtain⟨⟨x10,args⟩,g28⟩:=y
   refine ah<|ac<|bi O O<|nZ<|qZ<|cZ h O (λhb6 h=>?_) (λhb6 h=>?_)
   ·refine kZ<|qZ<|bZ<|ah<|tkZ h (λhg13 h=>ac<|a9 bK sz3 dZ (λ_=>O) O O hg13<|ac<|aP sz3 ag3 O O (v:=iZ (at' ((at' ((at' m.N x6).V) x8).M) x10)) O (stZ h (λa hs h=>wZ rg<|a8 (v:=iZ a) (by subst hs;rfl)<|nZ<|rZ<|mvZ (.sl 1 rg 128 g28 0 args.length) O<|mvZ (.fn (.func 67) [] [.ptr rg 16 g23 0 0,.ptr rg 10 g5 0 0,.ptr rg 15 g22 0 0,.ptr rg 17 g24 0 0]) O<|mvZ (iZ a) O<|ac<|clZ O<|eX (aw (aZ 16 O)<|aw (aZ 10 O)<|aw (aZ 15 O)<|aw (aZ 17 O)<|aw (aZ 47 O)<|cd)<|jy (aM (aj (bF O)<|aj (bF O)<|aj (bF O)<|aj (bF O)<|aL)<|aM (aj (bF O)<|aj (bF O)<|aj (bF O)<|aL)<|aM (aj (bF O)<|aj (bF O)<|aL)<|aM (aj (bF O)<|aL)<|aM (aL)<|fl) h λr2 h=>co (aw (aZ 16 O)<|aw (aZ 10 O)<|aw (aZ 15 O)<|aw (aZ 17 O)<|aw (aZ 47 O)<|cd)<|wZ rg<|bq bK ok3 fD (es:=[iZ r2]) O (kk:=1) O O O O O O (λg29=>tkZ h (λhg14 h=>wZ rg<|cF bK nt ok3 fD (es:=args) (xs:=[r2]) (enc:=iZ) (aZ 128 O) lzZ (bI (aZ 127 O) lzZ) (kk:=1) O O (λ_=>O) (λ_=>O) hg14 O (λ_=>aQ) (λg30=>asZ (.sl 1 rg 128 g30 0<|(args++[r2]).length) O<|nZ<|rZ<|tkZ h (λhg15 h=>ac<|aC O O hg15<|mvZ (iZ<|x10+1) O<|nZ ?_)))))))
    exact⟨(((x10+1),(args++[r2])),g30),(canon (aN<|aN<|aN<|aN<|aN<|fn)<|ct O O O O<|ct O O O O<|ct O O O O<|sn),h⟩
   refine xsZ<|rZ<|mvZ (.fn (.func 66) [] [.ptr rg 8 g3 0 0]) O<|ac<|aF jH O<|ac<|af (aZ 20 O) sz3 ag3 O O (v:=iZ ((at' ((at' m.N x6).V) x8).D)) O (ac<|aF gG O<|ac<|af (aZ 20 O) sz3 ag3 O O (v:=iZ ((at' ((at' m.N x6).V) x8).K)) O (mvZ (.sl 1 rg 128 g28 0 args.length) O ?_))
   refine eS (bt (k:=128) (xs:=List.map iZ args) O (es:=[(1,.ptr rg 1 g1 0 0),(2,.ptr rg 2 g2 0 0),(6,iZ (m.N.length:Int)),(8,.ptr rg 8 g3 0 0),(9,.fn (.func 66) [] [.ptr rg 8 g3 0 0]),(10,.ptr rg 10 g5 0 0),(14,.sl 1 rg 144 g20 0 tops.length),(16,.ptr rg 16 g23 0 0),(18,.fn (.func 67) [] [.ptr rg 16 g23 0 0,.ptr rg 10 g5 0 0,.ptr rg 15 g22 0 0,.ptr rg 17 g24 0 0]),(95,eL am m.N),(96,iZ (m.N.length:Int)),(97,iZ x6),(110,eL aV ((at' m.N x6).V)),(111,iZ (((at' m.N x6).V).length:Int)),(112,iZ x8),(130,.fn (.func 66) [] [.ptr rg 8 g3 0 0]),(132,iZ ((at' ((at' m.N x6).V) x8).D)),(134,iZ ((at' ((at' m.N x6).V) x8).K)),(135,bv args)]) (aN<|fZ<|fZ<|fc (ft O)<|aN<|aN<|fZ<|fZ<|fZ<|fc (bg O)<|fn) (m:=[(1,.arr 2 [az m],g1),(2,.arr 3 [.agg [iZ 0,.nil,iZ 0]],g2),(8,.arr 3 [.agg [iZ ((m.P.length:Int)*(m.N.length:Int)),.sl 3 rg 9001 g25 0 x9.length,iZ 0]],g3),(10,.arr 1 [.sl 1 rg 47 g4 0 x1.length],g5),(15,.arr 1 [iZ x6],g22),(16,.arr 3 [am (at' m.N x6)],g23),(17,.arr 1 [iZ (((m.P.length:Int)*(m.N.length:Int))+(x7.length:Int))],g24),(47,.arr 1 (List.map bv x1),g4),(144,.arr 1 (List.map iZ tops),g20),(9001,.arr 3 (List.map aV x9),g25)]) (ct O O O O<|ct O O O O<|sc O<|sc O<|sn)) ?_
   exact ac<|clZ O<|eX (aw (aZ 8 O)<|aw (aZ 9001 O)<|cd)<|ge (aM (aj (bF O)<|aL)<|aM (aL)<|fl) h λu1 r3 g31 h=>co (ca (ca (cd) aQ) aQ)<|nZ<|rZ<|tkZ h (λhg16 h=>ac<|aC O O hg16<|mvZ (iZ<|x8+1) O<|nZ<|⟨(((x8+1),u1),g31),(canon (aN<|aN<|aN<|fZ<|fZ<|fZ<|fn)<|ct O O O O<|ct O O O O<|sc O<|sc O<|sn),h⟩)
  exact xsZ<|rZ<|mvZ (.sl 1 rg 144 g20 0 tops.length) O<|mvZ (.fn (.func 67) [] [.ptr rg 16 g23 0 0,.ptr rg 10 g5 0 0,.ptr rg 15 g22 0 0,.ptr rg 17 g24 0 0]) O<|ac<|aF iF O<|ac<|af (aZ 16 O) sz3 ag3 O O (v:=iZ ((at' m.N x6).F)) O (ac<|clZ O<|eX (aw (aZ 16 O)<|aw (aZ 10 O)<|aw (aZ 15 O)<|aw (aZ 17 O)<|aw (aZ 47 O)<|cd)<|jy (aM (aj (bF O)<|aj (bF O)<|aj (bF O)<|aj (bF O)<|aL)<|aM (aj (bF O)<|aj (bF O)<|aj (bF O)<|aL)<|aM (aj (bF O)<|aj (bF O)<|aL)<|aM (aj (bF O)<|aL)<|aM (aL)<|fl) h λr4 h=>co (aw (aZ 16 O)<|aw (aZ 10 O)<|aw (aZ 15 O)<|aw (aZ 17 O)<|aw (aZ 47 O)<|cd)<|wZ rg<|bq bK ok3 fD (es:=[iZ r4]) O (kk:=1) O O O O O O (λg32=>tkZ h (λhg17 h=>wZ rg<|cF bK nt ok3 fD (es:=tops) (xs:=[r4]) (enc:=iZ) (aZ 144 O) lzZ (bI (aZ 143 O) lzZ) (kk:=1) O O (λ_=>O) (λ_=>O) hg17 O (λ_=>aQ) (λg33=>asZ (.sl 1 rg 144 g33 0<|(tops++[r4]).length) O<|nZ<|rZ<|tkZ h (λhg18 h=>ac<|aC O O hg18<|mvZ (iZ<|x6+1) O<|nZ<|⟨(((x6+1),(tops++[r4]),x9),(g33,g25)),(canon (aN<|aN<|fZ<|fZ<|fn)<|ct O O O O<|sc O<|sc O<|sc O<|sn),h⟩)))))
 refine xsZ<|ah<|mvZ (.sl 1 rg 144 g20 0 tops.length) O<|tkZ h (λhi5 h=>ac<|bh bK sz3 dZ O O hi5<|ac<|bY (aZ 144 O) sz3 ag3 O (bE hi5 lzZ) O (v:=iZ (at' tops 0)) O<|ac<|aF iF O<|ac<|ay (aZ 8 O) sz3 dZ O (w:=iZ (at' tops 0)) O O O (v:=.agg [iZ ((m.P.length:Int)*(m.N.length:Int)),.sl 3 rg 9001 g21 0 x7.length,iZ (at' tops 0)]) O aQ (nZ<|jgZ (γ:=Nat×Nat×Nat×Nat) h (λy=>a_ [(1,.ptr rg 1 y.2.1 0 0),(2,.ptr rg 2 y.2.2.1 0 0),(8,.ptr rg 8 y.2.2.2.1 0 0)]) (λy=>stL S rg [(1,.arr 2 [az m],y.2.1),(2,.arr 3 [.agg [iZ 0,.nil,iZ 0]],y.2.2.1),(8,.arr 3 [.agg [iZ ((m.P.length:Int)*(m.N.length:Int)),.sl 3 rg 9001 y.2.2.2.2 0 y.1.2.length,iZ y.1.1]],y.2.2.2.1),(9001,.arr 3 (List.map aV y.1.2),y.2.2.2.2)]) (λy h=>?_) (λ_ h=>?_)))
 ·obtain⟨⟨x11,x12⟩,⟨g34,g35,g36,g37⟩⟩:=y
  refine qZ<|ah<|ac<|aF bQ O<|ac<|af (aZ 8 O) eu fv O O (v:=.sl 3 rg 9001 g37 0 x12.length) O<|ac<|fG du O<|ac<|cY O O<|nZ<|cZ h O (λhb7 h=>?_) (λhb7 h=>?_)
  ·exact ah<|ac<|bC sy eY qq qd ck (ps:=[]) O O (v:=.agg [iZ 0,.nil,iZ 0]) O<|ac<|cp (by rw[gQ];trivial) (v:=iZ 4) O<|ac<|ay (aZ 2 O) ck dZ O (w:=.agg [iZ 0,.nil,iZ 0]) O O O (v:=.agg [iZ 0,.nil,iZ 0]) O aQ<|asZ .nil O<|asZ (.iface 41<|iZ 4) O<|aE<|be (aZ 2 O) ck dZ fm O O (v:=.agg [iZ 0,.nil,iZ 0]) O<|aB (v:=.nil) O<|aB (v:=.iface 41 (iZ 4)) O<|aJ<|aO hrg (VW.tupL<|vl' (VW.aggL<|vZ<|vl' (VW.nilL)<|vZ<|vn)<|vl' (VW.nilL)<|vZ<|vn)<|hQ _ _ _ h
  refine kZ<|ah<|asZ .nil O<|nZ<|qZ<|ah<|ac<|aF dO O<|ac<|af (aZ 1 O) jQ kK O O (v:=eL (eL aq) m.P) O<|ac<|aK iA O<|mvZ (iZ 0) O<|nZ<|bZ<|Vc.mat 24 180 3 O dZ (λg38=>lgZ h g38 (λy=>a_ [(2,.ptr rg 2 g35 0 0),(8,.ptr rg 8 g36 0 0),(24,.sl 3 rg 180 y.2 0 y.1.2.length),(163,eL (eL aq) m.P),(164,iZ (m.P.length:Int)),(165,iZ y.1.1)]) (λy=>stL S rg [(2,.arr 3 [.agg [iZ 0,.nil,iZ 0]],g35),(8,.arr 3 [.agg [iZ ((m.P.length:Int)*(m.N.length:Int)),.sl 3 rg 9001 g37 0 x12.length,iZ x11]],g36),(180,.arr 3 (List.map aq y.1.2),y.2),(9001,.arr 3 (List.map aV x12),g37)]) (canon (fZ<|fZ<|fc (VW.slen lzZ)<|fZ<|fZ<|fZ<|fn)<|ct O O O O<|sn) (λy _ h=>?_))
  obtain⟨⟨x13,p⟩,g39⟩:=y
  refine ah<|ac<|bi O O<|nZ<|qZ<|cZ h O (λhb8 h=>?_) (λhb8 h=>?_)
  ·refine kZ<|qZ<|bZ<|ah<|tkZ h (λhg19 h=>ac<|a9 iA ji dZ (λ_=>O) O O hg19<|ac<|aP ji sk O O (v:=eL aq (at' m.P x13)) O<|asZ (eL aq<|at' m.P x13) O<|aU<|mvZ (eL aq<|at' m.P x13) O<|ac<|aK eE O<|mvZ (iZ 0) O<|nZ<|bZ<|lgZ h g39 (λy=>a_ [(2,.ptr rg 2 g35 0 0),(8,.ptr rg 8 g36 0 0),(24,.sl 3 rg 180 y.2 0 y.1.2.length),(163,eL (eL aq) m.P),(164,iZ (m.P.length:Int)),(165,iZ x13),(169,eL aq (at' m.P x13)),(170,iZ ((at' m.P x13).length:Int)),(171,iZ y.1.1)]) (λy=>stL S rg [(2,.arr 3 [.agg [iZ 0,.nil,iZ 0]],g35),(8,.arr 3 [.agg [iZ ((m.P.length:Int)*(m.N.length:Int)),.sl 3 rg 9001 g37 0 x12.length,iZ x11]],g36),(180,.arr 3 (List.map aq y.1.2),y.2),(9001,.arr 3 (List.map aV x12),g37)]) (canon (aN<|aN<|fZ<|fn)<|ct O O O O<|sn) (λy _ h=>?_))
   obtain⟨⟨x14,p1⟩,g40⟩:=y
   refine ah<|ac<|bi O O<|nZ<|qZ<|cZ h O (λhb9 h=>?_) (λhb9 h=>?_)
   ·exact kZ<|qZ<|bZ<|ah<|tkZ h (λhg20 h=>ac<|a9 eE bb dZ (λ_=>O) O O hg20<|ac<|cz bb dZ bH O O (v:=aq (at' (at' m.P x13) x14)) O (wZ rg<|aT bN dH (kk:=3) O (λg41=>ac<|ay (aZ 28 O) bb dZ O (w:=aq (at' (at' m.P x13) x14)) O O O (v:=aq (at' (at' m.P x13) x14)) O aQ (nZ<|rZ<|mvZ (.sl 3 rg 180 g40 0 p1.length) O<|ac<|ar (aZ 28 O) bb dZ bH O O (v:=aq (at' (at' m.P x13) x14)) O (ac<|bC oL bN mq lR bb (ps:=[]) O O (v:=.agg [.bool false,.nil,.nil]) O<|wZ rg<|D8 (us:=[aq (at' (at' m.P x13) x14),aq (⟨false,[],[]⟩:GRat)]) O (vZ<|vl' (VW.aggL<|vZ<|vl' (VW.nilL)<|vl' (VW.nilL)<|vn)<|vn) (ir h λr5 h=>wZ rg<|bq eE dH bN (es:=[aq r5]) O (kk:=3) O O O O O O (λg42=>tkZ h (λhg21 h=>wZ rg<|cF eE wn dH bN (es:=p1) (xs:=[r5]) (enc:=aq) (aZ 180 O) lzZ (bI (aZ 179 O) lzZ) (kk:=3) O O (λ_=>O) (λ_=>O) hg21 O (λ_=>aQ) (λg43=>asZ (.sl 3 rg 180 g43 0<|(p1++[r5]).length) O<|nZ<|rZ<|tkZ h (λhg22 h=>ac<|aC O O hg22<|mvZ (iZ<|x14+1) O<|nZ<|⟨(((x14+1),(p1++[r5])),g43),(canon (aN<|aN<|fZ<|fn)<|ct O O O O<|sn),h⟩))))))))))
   exact xsZ<|rZ<|tkZ h (λhg23 h=>ac<|aC O O hg23<|mvZ (iZ<|x13+1) O<|nZ<|⟨(((x13+1),p1),g40),(canon (aN<|fZ<|fZ<|fn)<|ct O O O O<|sn),h⟩)
  exact xsZ<|ah<|ac<|ar (aZ 8 O) ck dZ fm O O (v:=.agg [iZ ((m.P.length:Int)*(m.N.length:Int)),.sl 3 rg 9001 g37 0 x12.length,iZ x11]) O (mvZ (.sl 3 rg 180 g39 0 p.length) O<|ac<|ay (aZ 2 O) ck dZ O (w:=.agg [iZ ((m.P.length:Int)*(m.N.length:Int)),.sl 3 rg 9001 g37 0 x12.length,iZ x11]) O O O (v:=.agg [iZ ((m.P.length:Int)*(m.N.length:Int)),.sl 3 rg 9001 g37 0 x12.length,iZ x11]) O aQ (asZ (.sl 3 rg 180 g39 0 p.length) O<|asZ .niface O<|aE<|be (aZ 2 O) ck dZ fm O O (v:=.agg [iZ ((m.P.length:Int)*(m.N.length:Int)),.sl 3 rg 9001 g37 0 x12.length,iZ x11]) O (aB (v:=.sl 3 rg 180 g39 0 p.length) O<|aB (v:=.niface) O<|aJ<|br (k:=180) (xs:=List.map aq p) O (v':=.tuple [.agg [iZ ((m.P.length:Int)*(m.N.length:Int)),.sl 3 rg 9001 g37 0 x12.length,iZ x11],eL aq p,.niface]) (VW.tupL<|vl' (VW.aggL<|vZ<|vl' (ft O)<|vZ<|vn)<|vl' (bg O)<|vZ<|vn) (br (k:=9001) (xs:=List.map aV x12) O (v':=.tuple [.agg [iZ ((m.P.length:Int)*(m.N.length:Int)),eL aV x12,iZ x11],eL aq p,.niface]) (VW.tupL<|vl' (VW.aggL<|vZ<|vl' (bg O)<|vZ<|vn)<|vZ<|vZ<|vn) (aO hrg (VW.tupL<|vZ<|vZ<|vZ<|vn)<|hQ _ _ _ h)))))
 refine ah<|mvZ (iZ (m.N.length:Int)) O<|ac<|cY O O<|nZ<|cZ h O (λhb10 h=>?_) (λhb10 h=>?_)
 ·exact rZ<|mvZ (.fn (.func 66) [] [.ptr rg 8 g3 0 0]) O<|mvZ (.sl 1 rg 144 g20 0 tops.length) O<|eS (bt (k:=144) (xs:=List.map iZ tops) O (es:=[(1,.ptr rg 1 g1 0 0),(2,.ptr rg 2 g2 0 0),(8,.ptr rg 8 g3 0 0),(152,.fn (.func 66) [] [.ptr rg 8 g3 0 0]),(153,bv tops)]) (aN<|fc (bg O)<|fn) (m:=[(1,.arr 2 [az m],g1),(2,.arr 3 [.agg [iZ 0,.nil,iZ 0]],g2),(8,.arr 3 [.agg [iZ ((m.P.length:Int)*(m.N.length:Int)),.sl 3 rg 9001 g21 0 x7.length,iZ (at' tops 0)]],g3),(9001,.arr 3 (List.map aV x7),g21)]) (ct O O O O<|sn)) (ac<|clZ O<|eX (aw (aZ 8 O)<|aw (aZ 9001 O)<|cd)<|ge (aM (aj (bF O)<|aL)<|aM (aL)<|fl) h λu2 r6 g44 h=>co (ca (ca (cd) aQ) aQ)<|ac<|aF iF O<|ac<|ay (aZ 8 O) sz3 dZ O (w:=iZ r6) O O O (v:=.agg [iZ ((m.P.length:Int)*(m.N.length:Int)),.sl 3 rg 9001 g44 0 u2.length,iZ r6]) O aQ (nZ<|⟨((r6,u2),(g1,g2,g3,g44)),(canon (fZ<|fZ<|fZ<|fn)<|ct O O O O<|sn),h⟩))
 exact kZ<|⟨(((at' tops 0),x7),(g1,g2,g3,g21)),(canon (fZ<|fZ<|fZ<|fn)<|ct O O O O<|sn),h⟩
theorem jd {m:GMission} {h1:List Int} {Q:Option Int->Prop} (h:fk m h1 Q) (hQ:∀r1,Q r1->R (aW 41 r1) S) :
  Ctr prog 79 [az m,bv h1] S R:=by
 refine aG func79 rfl ntmps79 results79 krZ (λrg hrg=>?_)
 refine ah<|wZ rg<|bA (v:=az m) O O (kk:=2) O dZ (λg1=>asZ .niface O<|nZ<|qZ<|ah<|ac<|ar (aZ 2 O) c_ dZ eP O O (v:=az m) O<|ac<|clZ O<|iu h λerr h=>asZ (aW 41 err) O<|aU<|mvZ (aW 41 err) O<|ac<|cH fX (E:=41) O O O<|nZ<|cZ h O (λhb h=>?_) (λhb h=>?_))
 ·exact ah<|mvZ (aW 41 err) O<|asZ (aW 41 err) O<|aE<|gv1 hrg<|hQ _ h
 refine kZ<|qZ<|ah<|mvZ (bv h1) O<|ac<|aK bK O<|ac<|aF dO O<|ac<|af (aZ 2 O) jQ kK O O (v:=eL (eL aq) m.P) O<|ac<|aK iA O<|ac<|fA O O<|nZ<|cZ h O (λhb1 h=>?_) (λhb1 h=>?_)
 ·exact ah<|ac<|cp (by rw[gQ];trivial) (v:=iZ 11) O<|asZ (.iface 41<|iZ 11) O<|aE<|gv1 hrg<|hQ _ h
 refine kZ<|qZ<|ah<|mvZ (bv h1) O<|ac<|aK bK O<|mvZ (iZ 0) O<|nZ<|bZ<|lgZ h g1 (λy=>a_ [(2,.ptr rg 2 y.2 0 0),(20,bv h1),(21,iZ (h1.length:Int)),(22,iZ y.1)]) (λy=>stL S rg [(2,.arr 2 [az m],y.2)]) (canon (aN<|fn)<|sc O<|sn) (λy _ h=>?_)
 obtain⟨x,g2⟩:=y
 refine ah<|ac<|bi O O<|nZ<|qZ<|cZ h O (λhb2 h=>?_) (λhb2 h=>?_)
 ·refine kZ<|qZ<|bZ<|ah<|tkZ h (λhg h=>ac<|a9 bK sz3 dZ (λ_=>O) O O hg<|ac<|aP sz3 ag3 O O (v:=iZ (at' h1 x)) O<|asZ (iZ<|at' h1 x) O<|nZ<|jgZ (γ:=Nat) h (λy=>a_ [(2,.ptr rg 2 y.2 0 0),(20,bv h1),(21,iZ (h1.length:Int)),(22,iZ x),(34,.bool y.1)]) (λy=>stL S rg [(2,.arr 2 [az m],y.2)]) (λy h=>?_) (λ_ h=>?_))
  ·obtain⟨x1,g3⟩:=y
   refine cZ h O (λhb3 h=>?_) (λhb3 h=>?_)
   ·exact ah<|ac<|cp (by rw[gQ];trivial) (v:=iZ 3) O<|asZ (.iface 41<|iZ 3) O<|aE<|gv1 hrg<|hQ _ h
   exact kZ<|rZ<|tkZ h (λhg1 h=>ac<|aC O O hg1<|mvZ (iZ<|x+1) O<|nZ<|⟨((x+1),g3),(canon (aN<|fn)<|sc O<|sn),h⟩)
  refine rZ<|mvZ (iZ<|at' h1 x) O<|ac<|bi O O<|mvZ (.bool<|decide<|(at' h1 x)<0) O<|gfZ h O O (λhb4 h=>?_) (λhb4 h=>?_)
  ·exact mvZ (iZ<|at' h1 x) O<|gTZ O O hb4<|ac<|aF cy O<|gTZ O O hb4<|ac<|af (aZ 2 O) fL gz O O (v:=eL am m.N) O<|gTZ O O hb4<|ac<|aK fp O<|gTZ O O hb4<|ac<|cY O O<|ac<|aY O hb4 (v:=.bool (decide<|(m.N.length:Int)<(at' h1 x))) O (nZ<|⟨((decide<|(m.N.length:Int)<(at' h1 x)),g2),(canon (aN<|fZ<|fn)<|sc O<|sn),h⟩)
  exact gFZ O O hb4 O<|gFZ O O hb4 O<|gFZ O O hb4 O<|gFZ O O hb4 O<|ac<|aS O hb4 (v:=.bool true) O<|nZ<|⟨(true,g2),(canon (aN<|fZ<|fn)<|sc O<|sn),h⟩
 exact xsZ<|ah<|asZ .niface O<|aE<|gv1 hrg<|hQ _ h
theorem rn {h1:List Int} {j:Int} {Q:Int->Prop} (h:kP h1 j Q) (hQ:∀r1,Q r1->R (iZ r1) S) :
  Ctr prog 81 [bv h1,iZ j] S R:=by
 refine aG func81 rfl ntmps81 results81 krZ (λrg hrg=>?_)
 refine ah<|asZ (iZ 0) O<|aU<|asZ (iZ 0) O<|nZ<|qZ<|ah<|mvZ (bv h1) O<|ac<|aK bK O<|mvZ (iZ 0) O<|nZ<|bZ<|lpZ h (λy=>a_ [(1,iZ j),(5,iZ y.1),(8,bv h1),(9,iZ (h1.length:Int)),(10,iZ y.2)]) (λy=>stL S rg []) (canon (aN<|fZ<|fn)<|sn) (λy _ h=>?_)
 obtain⟨set,x⟩:=y
 refine ah<|ac<|bi O O<|nZ<|qZ<|cZ h O (λhb h=>?_) (λhb h=>?_)
 ·refine kZ<|qZ<|bZ<|ah<|mvZ (iZ x) O<|tkZ h (λhg h=>ac<|a9 bK sz3 dZ (λ_=>O) O O hg<|ac<|aP sz3 ag3 O O (v:=iZ (at' h1 x)) O<|asZ (iZ x) O<|asZ (iZ<|at' h1 x) O<|aU<|mvZ (iZ<|at' h1 x) O<|mvZ (iZ j) O<|ac<|rx O O<|nZ<|cZ h O (λhb1 h=>?_) (λhb1 h=>?_))
  ·exact rZ<|mvZ (iZ set) O<|mvZ (iZ x) O<|tkZ h (λhg1 h=>ac<|D3 O O hg1<|ac<|w5 O O<|asZ (iZ<|bits .or .i64 set<|1*2^(Int.toNat x)) O<|nZ<|rZ<|tkZ h (λhg2 h=>ac<|aC O O hg2<|mvZ (iZ<|x+1) O<|nZ<|⟨((bits .or .i64 set<|1*2^(Int.toNat x)),(x+1)),(canon (aN<|fZ<|fn)<|sn),h⟩))
  exact kZ<|rZ<|tkZ h (λhg3 h=>ac<|aC O O hg3<|mvZ (iZ<|x+1) O<|nZ<|⟨(set,(x+1)),(canon (aN<|fZ<|fn)<|sn),h⟩)
 exact xsZ<|ah<|mvZ (iZ set) O<|asZ (iZ set) O<|aE<|gv1 hrg<|hQ _ h
theorem sH {m:GMission} {h1:List Int} {Q:Int->Option Int->Prop} (h:l9 m h1 Q) (hQ:∀r1 r2,Q r1 r2->R (.tuple [iZ r1,aW 41 r2]) S) :
  Ctr prog 41 [az m,bv h1] S R:=by
 refine aG func41 rfl ntmps41 results41 krZ (λrg hrg=>?_)
 refine ah<|wZ rg<|bA (v:=az m) O O (kk:=2) O dZ (λg1=>asZ (iZ 0) O<|asZ .niface O<|nZ<|qZ<|ah<|ac<|ar (aZ 2 O) c_ dZ eP O O (v:=az m) O<|mvZ (bv h1) O<|ac<|clZ O<|jd h λerr h=>asZ (aW 41 err) O<|aU<|mvZ (aW 41 err) O<|ac<|cH fX (E:=41) O O O<|nZ<|cZ h O (λhb h=>?_) (λhb h=>?_))
 ·exact ah<|mvZ (aW 41 err) O<|asZ (iZ 0) O<|asZ (aW 41 err) O<|aE<|aB (v:=iZ 0) O<|aB (v:=aW 41 err) O<|aJ<|aO hrg (VW.tupL<|vZ<|vZ<|vn)<|hQ _ _ h
 refine kZ<|qZ<|ah<|ac<|aF cy O<|ac<|af (aZ 2 O) fL gz O O (v:=eL am m.N) O<|ac<|aK fp O<|mvZ (iZ 0) O<|nZ<|bZ<|lpZ h (λy=>a_ [(1,bv h1),(2,.ptr rg 2 g1 0 0),(18,eL am m.N),(19,iZ (m.N.length:Int)),(20,iZ y)]) (λy=>stL S rg [(2,.arr 2 [az m],g1)]) (canon (aN<|fZ<|fn)<|sc O<|sn) (λx _ h=>ah<|ac<|bi O O<|nZ<|qZ<|cZ h O (λhb1 h=>?_) (λhb1 h=>?_))
 ·refine kZ<|qZ<|bZ<|ah<|mvZ (iZ x) O<|tkZ h (λhg h=>ac<|a9 fp ck dZ (λ_=>O) O O hg<|ac<|cz ck dZ fm O O (v:=am (at' m.N x)) O<|wZ rg<|aT eY ni (kk:=3) O (λg2=>asZ (iZ x) O<|ac<|ay (aZ 8 O) ck dZ O (w:=am (at' m.N x)) O O O (v:=am (at' m.N x)) O aQ<|nZ<|qZ ?_))
  obtain⟨r,hc,h⟩:=h
  obtain⟨r1,r2,hc1,h⟩:=h
  refine Vc.drawn' bG rg (gk [(3,pc (iZ r)),(4,pc (.tuple [.bool r1,aW 41 r2]))]) krZ (dL (E:=([(rg,8)],[])) O O zSm (cfn) (ar (aZ 8 O) ck dZ fm O O (v:=am (at' m.N x)) O<|dP O O<|aD (v:=bv h1) O<|dP O O<|aD (v:=iZ x) O<|dC (vs:=[bv h1,iZ x]) O (vZ<|vZ<|vn) (λ_=>rn hc (λ_ hr=>⟨by rw[hr],rfl⟩)) O<|dC (vs:=[am (at' m.N x),iZ r]) O (vZ<|vZ<|vn) (λ_=>rS hc1 (λ_ _ hr=>⟨by rw[hr.1,hr.2],rfl⟩)) O<|dP O O<|aD (v:=.tuple [.bool r1,aW 41 r2]) O<|dP O O<|au (v:=.bool r1) O O O<|dP O O<|au (v:=aW 41 r2) O O O<|dP O O<|a8 (v:=.bool r1) O<|dP O O<|a8 (v:=aW 41 r2) O<|dN<|qZ<|ah<|mvZ (aW 41 r2) O<|ac<|cH fX (E:=41) O O O<|nZ<|cZ h O (λhb2 h=>?_) (λhb2 h=>?_)))
  ·exact ah<|mvZ (aW 41 r2) O<|asZ (iZ 0) O<|asZ (aW 41 r2) O<|aE<|aB (v:=iZ 0) O<|aB (v:=aW 41 r2) O<|aJ<|aO hrg (VW.tupL<|vZ<|vZ<|vn)<|hQ _ _ h
  refine kZ<|ah<|mvZ (.bool r1) O<|nZ<|cZ h O (λhb3 h=>?_) (λhb3 h=>?_)
  ·exact ah<|mvZ (iZ x) O<|asZ (iZ x) O<|asZ .niface O<|aE<|aB (v:=iZ x) O<|aB (v:=.niface) O<|aJ<|aO hrg (VW.tupL<|vZ<|vZ<|vn)<|hQ _ _ h
  exact kZ<|rZ<|tkZ h (λhg1 h=>ac<|aC O O hg1<|mvZ (iZ<|x+1) O<|nZ<|⟨(x+1),(canon (aN<|fZ<|fn)<|sc O<|sn),h⟩)
 exact xsZ<|ah<|ac<|aF cy O<|ac<|af (aZ 2 O) fL gz O O (v:=eL am m.N) O<|ac<|aK fp O<|asZ (iZ (m.N.length:Int)) O<|asZ .niface O<|aE<|aB (v:=iZ (m.N.length:Int)) O<|aB (v:=.niface) O<|aJ<|aO hrg (VW.tupL<|vZ<|vZ<|vn)<|hQ _ _ h
theorem rq {m:GMission} {h1:List Int} {Q:GRat->Option Int->Prop} (h:kQ m h1 Q) (hQ:∀r1 r2,Q r1 r2->R (.tuple [aq r1,aW 41 r2]) S) :
  Ctr prog 42 [az m,bv h1] S R:=by
 refine aG func42 rfl ntmps42 results42 krZ (λrg hrg=>?_)
 refine ah<|wZ rg<|bA (v:=az m) O O (kk:=2) O dZ (λg1=>wZ rg<|aT bN dH (kk:=3) O (λg2=>asZ .niface O<|nZ<|qZ<|ah<|ac<|ar (aZ 2 O) c_ dZ eP O O (v:=az m) O<|mvZ (bv h1) O<|ac<|clZ O<|jd h λerr h=>asZ (aW 41 err) O<|aU<|mvZ (aW 41 err) O<|ac<|cH fX (E:=41) O O O<|nZ<|cZ h O (λhb h=>?_) (λhb h=>?_)))
 ·exact ah<|ac<|bC oL bN mq lR bb (ps:=[]) O O (v:=.agg [.bool false,.nil,.nil]) O<|mvZ (aW 41 err) O<|ac<|ay (aZ 4 O) bb dZ O (w:=.agg [.bool false,.nil,.nil]) O O O (v:=.agg [.bool false,.nil,.nil]) O aQ<|asZ (aW 41 err) O<|aE<|be (aZ 4 O) bb dZ bH O O (v:=.agg [.bool false,.nil,.nil]) O<|aB (v:=aW 41 err) O<|aJ<|aO hrg (VW.tupL<|vl' (VW.aggL<|vZ<|vl' (VW.nilL)<|vl' (VW.nilL)<|vn)<|vZ<|vn)<|hQ _ _ h
 refine kZ<|ah<|ac<|clZ O<|gp h λr h=>wZ rg<|aT bN dH (kk:=3) O (λg3=>ac<|ay (aZ 7 O) bb dZ O (w:=aq r) O O O (v:=aq r) O aQ<|aU<|ac<|ar (aZ 7 O) bb dZ bH O O (v:=aq r) O<|wZ rg<|aT bN dH (kk:=3) O (λg4=>ac<|ay (aZ 8 O) bb dZ O (w:=aq r) O O O (v:=aq r) O aQ<|nZ<|qZ<|ah<|mvZ (bv h1) O<|ac<|aK bK O<|mvZ (iZ 0) O<|nZ<|bZ<|lgZ h (g1,g2,g3,g4) (λy=>a_ [(2,.ptr rg 2 y.2.1 0 0),(4,.ptr rg 4 y.2.2.1 0 0),(7,.ptr rg 7 y.2.2.2.1 0 0),(8,.ptr rg 8 y.2.2.2.2 0 0),(22,bv h1),(23,iZ (h1.length:Int)),(24,iZ y.1.1)]) (λy=>stL S rg [(2,.arr 2 [az m],y.2.1),(4,.arr 3 [.agg [.bool false,.nil,.nil]],y.2.2.1),(7,.arr 3 [aq r],y.2.2.2.1),(8,.arr 3 [aq y.1.2],y.2.2.2.2)]) (canon (aN<|fZ<|fZ<|fZ<|fn)<|ct O O O O<|sn) (λy _ h=>?_)))
 obtain⟨⟨x,x1⟩,⟨g5,g6,g7,g8⟩⟩:=y
 refine ah<|ac<|bi O O<|nZ<|qZ<|cZ h O (λhb1 h=>?_) (λhb1 h=>?_)
 ·refine kZ<|qZ<|bZ<|ah<|mvZ (iZ x) O<|tkZ h (λhg h=>ac<|a9 bK sz3 dZ (λ_=>O) O O hg<|ac<|aP sz3 ag3 O O (v:=iZ (at' h1 x)) O<|asZ (iZ x) O<|asZ (iZ<|at' h1 x) O<|nZ<|qZ<|tkZ h (λhg1 h=>tkZ h (λhg2 h=>tkZ h (λhg3 h=>Vc.drawn' bG rg (λ_=>gN) krZ<|dP O O<|aF dO O<|dL (E:=([(rg,2)],[])) O O zSm (cfn) (af (aZ 2 O) jQ kK O O (v:=eL (eL aq) m.P) O<|dP O O<|aD (v:=iZ x) O<|dP O O<|a9 iA ji dZ (λ_=>O) O O hg1<|dP O O<|aP ji sk O O (v:=eL aq (at' m.P x)) O<|dP O O<|aD (v:=iZ (at' h1 x)) O<|dP O O<|aC O O hg2<|dP O O<|aF cy O<|dL (E:=([(rg,2)],[])) O O zSm (cfa zAp<|cfn) (af (aZ 2 O) fL gz O O (v:=eL am m.N) O<|dP O O<|aK fp O<|dP O O<|Gx O O<|dP O O<|jB eE bb dZ (λ_=>O) O (l:=0) (h:=(min ((at' h1 x)+1) (m.N.length:Int))) O O hg3 (dP O O<|aK eE O<|dP O O<|aD (v:=iZ 0) O<|dN<|bZ ?_)))))))
  refine lgZ h (g5,g6,g7,g8) (λy=>a_ [(2,.ptr rg 2 y.2.1 0 0),(4,.ptr rg 4 y.2.2.1 0 0),(7,.ptr rg 7 y.2.2.2.1 0 0),(8,.ptr rg 8 y.2.2.2.2 0 0),(10,iZ (at' h1 x)),(22,bv h1),(23,iZ (h1.length:Int)),(24,iZ x),(40,eL aq (cg (at' m.P x) 0<|min ((at' h1 x)+1) (m.N.length:Int))),(41,iZ ((cg (at' m.P x) 0<|min ((at' h1 x)+1) (m.N.length:Int)).length:Int)),(42,iZ y.1.1)]) (λy=>stL S rg [(2,.arr 2 [az m],y.2.1),(4,.arr 3 [.agg [.bool false,.nil,.nil]],y.2.2.1),(7,.arr 3 [aq r],y.2.2.2.1),(8,.arr 3 [aq y.1.2],y.2.2.2.2)]) (canon (aN<|aN<|fZ<|fZ<|fZ<|fn)<|ct O O O O<|sn) (λy _ h=>?_)
  obtain⟨⟨x2,x3⟩,⟨g9,g10,g11,g12⟩⟩:=y
  refine ah<|ac<|bi O O<|nZ<|qZ<|cZ h O (λhb2 h=>?_) (λhb2 h=>?_)
  ·refine kZ<|qZ<|bZ<|ah<|mvZ (iZ x2) O<|tkZ h (λhg4 h=>ac<|a9 eE bb dZ (λ_=>O) O O hg4<|ac<|cz bb dZ bH O O (v:=aq (at' (cg (at' m.P x) 0<|min ((at' h1 x)+1) (m.N.length:Int)) x2)) O (wZ rg<|aT bN dH (kk:=3) O (λg13=>asZ (iZ x2) O<|ac<|ay (aZ 12 O) bb dZ O (w:=aq (at' (cg (at' m.P x) 0<|min ((at' h1 x)+1) (m.N.length:Int)) x2)) O O O (v:=aq (at' (cg (at' m.P x) 0<|min ((at' h1 x)+1) (m.N.length:Int)) x2)) O aQ (nZ<|jgZ (γ:=Nat×Nat×Nat×Nat×Nat) h (λy=>a_ [(2,.ptr rg 2 y.2.1 0 0),(4,.ptr rg 4 y.2.2.1 0 0),(7,.ptr rg 7 y.2.2.2.1 0 0),(8,.ptr rg 8 y.2.2.2.2.1 0 0),(10,iZ (at' h1 x)),(12,.ptr rg 12 y.2.2.2.2.2 0 0),(22,bv h1),(23,iZ (h1.length:Int)),(24,iZ x),(40,eL aq (cg (at' m.P x) 0<|min ((at' h1 x)+1) (m.N.length:Int))),(41,iZ ((cg (at' m.P x) 0<|min ((at' h1 x)+1) (m.N.length:Int)).length:Int)),(42,iZ x2)]) (λy=>stL S rg [(2,.arr 2 [az m],y.2.1),(4,.arr 3 [.agg [.bool false,.nil,.nil]],y.2.2.1),(7,.arr 3 [aq r],y.2.2.2.1),(8,.arr 3 [aq x3],y.2.2.2.2.1),(12,.arr 3 [aq y.1],y.2.2.2.2.2)]) (λy h=>?_) (λ_ h=>?_)))))
   ·obtain⟨x4,⟨g14,g15,g16,g17,g18⟩⟩:=y
    exact rZ<|ac<|ar (aZ 8 O) bb dZ bH O O (v:=aq x3) O<|ac<|ar (aZ 12 O) bb dZ bH O O (v:=aq x4) O<|ac<|clZ O<|iq h λr1 h=>ac<|ay (aZ 8 O) bb dZ O (w:=aq r1) O O O (v:=aq r1) O aQ<|nZ<|rZ<|tkZ h (λhg5 h=>ac<|aC O O hg5<|mvZ (iZ<|x2+1) O<|nZ<|⟨(((x2+1),r1),(g14,g15,g16,g17)),(canon (aN<|aN<|fZ<|fZ<|fZ<|fn)<|ct O O O O<|sn),h⟩)
   refine ah<|mvZ (iZ x2) O<|mvZ (iZ<|at' h1 x) O<|ac<|bi O O<|nZ<|cZ h O (λhb3 h=>?_) (λhb3 h=>?_)
   ·exact rZ<|ac<|ar (aZ 7 O) bb dZ bH O O (v:=aq r) O<|ac<|ar (aZ 12 O) bb dZ bH O O (v:=aq (at' (cg (at' m.P x) 0<|min ((at' h1 x)+1) (m.N.length:Int)) x2)) O (ac<|clZ O<|ip h λr2 h=>ac<|ay (aZ 12 O) bb dZ O (w:=aq r2) O O O (v:=aq r2) O aQ<|nZ<|⟨(r2,(g9,g10,g11,g12,g13)),(canon (aN<|aN<|aN<|fn)<|ct O O O O<|sc O<|sn),h⟩)
   exact kZ<|⟨((at' (cg (at' m.P x) 0<|min ((at' h1 x)+1) (m.N.length:Int)) x2),(g9,g10,g11,g12,g13)),(canon (aN<|aN<|aN<|fn)<|ct O O O O<|sc O<|sn),h⟩
  exact xsZ<|rZ<|tkZ h (λhg6 h=>ac<|aC O O hg6<|mvZ (iZ<|x+1) O<|nZ<|⟨(((x+1),x3),(g9,g10,g11,g12)),(canon (aN<|fZ<|fZ<|fZ<|fn)<|ct O O O O<|sn),h⟩)
 exact xsZ<|ah<|ac<|ar (aZ 8 O) bb dZ bH O O (v:=aq x1) O<|ac<|ay (aZ 4 O) bb dZ O (w:=aq x1) O O O (v:=aq x1) O aQ<|asZ .niface O<|aE<|be (aZ 4 O) bb dZ bH O O (v:=aq x1) O<|aB (v:=.niface) O<|aJ<|aO hrg (VW.tupL<|vZ<|vZ<|vn)<|hQ _ _ h
end Go.Proofs.YtcmagbhiioheeaaGreat
