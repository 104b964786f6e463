/- Walks of functions. Conditions: none. -/
import Derived.Test.YtnjgdkfhgmebjaaGreatWa
import Derived.Test.YtnjgdkfhgmebjaaGreatGgTy
import Derived.Test.YtnjgdkfhgmebjaaGreatK1
import Derived.Test.YtnjgdkfhgmebjaaGreatK4
namespace Go.Proofs.YtnjgdkfhgmebjaaGreat
open Go.Gg
set_option maxRecDepth 100000
variable {S:St} {R:AV->St->Prop}
theorem nj {m:GMission} {i:Int} {Q:Bool->Prop} (h:jM m i Q) (hQ:∀r1,Q r1->R (AV.bool r1) S) :
  Ctr Tryz.prog 7 [ay m,iZ i] S R:=by
 refine aE Tryz.func7 rfl Tryz.ntmps7 Tryz.results7 krZ (λrg hrg=>?_)
 refine qZ<|rZ<|wZ rg<|bC (v:=ay m) O O (kk:=2) O dZ (λg1=>asZ (.bool false) O<|nZ<|qZ<|jgZ (γ:=Nat) h (λy=>a8 [(1,iZ i),(2,.ptr rg 2 y.2 0 0),(30,.bool y.1)]) (λy=>stL S rg [(2,.arr 2 [ay m],y.2)]) (λy h=>?_) (λ_ h=>?_))
 ·obtain ⟨x,g2⟩:=y
  refine cZ h O (λhb h=>?_) (λhb h=>?_)
  ·exact qZ<|rZ<|wZ rg<|clZ O<|nF h λr h=>asZ (.bool r) O<|nZ<|uZ<|gv1 hrg<|hQ _ h
  refine kZ<|qZ<|rZ<|wZ rg<|au (aZ 2 O) fo dZ gb O O (v:=ay m) O<|wZ rg<|clZ O<|fW h λr1 r2 h=>mvZ (.tuple [ak r1,aT 82 r2]) O<|wZ rg<|aq (v:=ak r1) O O O<|wZ rg<|aq (v:=aT 82 r2) O O O<|wZ rg<|aY bS eb (kk:=3) O (λg3=>wZ rg<|aw (aZ 5 O) a9 dZ O (w:=ak r1) O O O (v:=ak r1) O aQ<|asZ (aT 82 r2) O<|nZ<|qZ<|rZ<|wZ rg<|au (aZ 2 O) fo dZ gb O O (v:=ay m) O<|mvZ (iZ i) O<|wZ rg<|clZ O<|qz h λr3 r4 h=>mvZ (.tuple [ak r3,aT 82 r4]) O<|wZ rg<|aq (v:=ak r3) O O O<|wZ rg<|aq (v:=aT 82 r4) O O O<|wZ rg<|aY bS eb (kk:=3) O (λg4=>wZ rg<|aw (aZ 7 O) a9 dZ O (w:=ak r3) O O O (v:=ak r3) O aQ<|asZ (aT 82 r4) O<|nZ<|qZ<|rZ<|mvZ (aT 82 r2) O<|wZ rg<|ku gf (E:=82) O O O<|mvZ (.bool<|Option.isNone r2) O<|gtZ h O O (λhb1 h=>?_) (λhb1 h=>?_)))
  ·refine mvZ (aT 82 r4) O<|gTZ O O hb1<|wZ rg<|ku gf (E:=82) O O O<|wZ rg<|aX O hb1 (v:=.bool (Option.isNone r4)) O<|mvZ (.bool<|Option.isNone r4) O<|gtZ h O O (λhb2 h=>?_) (λhb2 h=>?_)
   ·refine wZ rg<|au (aZ 7 O) a9 dZ bK O O (v:=ak r3) O<|gTZ O O hb2<|wZ rg<|clZ O<|iO h λr5 h=>gTZ O O hb2<|wZ rg<|ez O O<|wZ rg<|aX O hb2 (v:=.bool (decide<|0<=r5)) O (mvZ (.bool<|decide<|0<=r5) O<|gtZ h O O (λhb3 h=>?_) (λhb3 h=>?_))
    ·exact wZ rg<|au (aZ 7 O) a9 dZ bK O O (v:=ak r3) O<|gTZ O O hb3<|wZ rg<|au (aZ 5 O) a9 dZ bK O O (v:=ak r1) O<|gTZ O O hb3<|wZ rg<|clZ O<|o9 h λr6 h=>gTZ O O hb3<|wZ rg<|pe O O<|wZ rg<|aX O hb3 (v:=.bool (decide<|r6<=0)) O (asZ (.bool<|decide<|r6<=0) O<|nZ<|uZ<|gv1 hrg<|hQ _ h)
    exact gFZ O O hb3 O<|gFZ O O hb3 O<|gFZ O O hb3 O<|wZ rg<|aR O hb3 (v:=.bool false) O<|asZ (.bool false) O<|nZ<|uZ<|gv1 hrg<|hQ _ h
   exact gFZ O O hb2 O<|gFZ O O hb2 O<|wZ rg<|aR O hb2 (v:=.bool false) O<|mvZ (.bool false) O<|gFZ O O O O<|gFZ O O O O<|gFZ O O O O<|gFZ O O O O<|wZ rg<|aR O O (v:=.bool false) O<|asZ (.bool false) O<|nZ<|uZ<|gv1 hrg<|hQ _ h
  exact gFZ O O hb1 O<|wZ rg<|aR O hb1 (v:=.bool false) O<|mvZ (.bool false) O<|gFZ O O O O<|gFZ O O O O<|gFZ O O O O<|wZ rg<|aR O O (v:=.bool false) O<|mvZ (.bool false) O<|gFZ O O O O<|gFZ O O O O<|gFZ O O O O<|gFZ O O O O<|wZ rg<|aR O O (v:=.bool false) O<|asZ (.bool false) O<|nZ<|uZ<|gv1 hrg<|hQ _ h
 refine rZ<|wZ rg<|clZ O<|nF h λr7 h=>wZ rg<|fH O<|mvZ (.bool<|!r7) O<|gfZ h O O (λhb4 h=>?_) (λhb4 h=>?_)
 ·refine wZ rg<|au (aZ 2 O) fo dZ gb O O (v:=ay m) O<|gTZ O O hb4<|wZ rg<|clZ O<|sS h λr8 h=>gTZ O O hb4<|wZ rg<|fH O<|wZ rg<|aR O hb4 (v:=.bool (!r8)) O<|mvZ (.bool<|!r8) O<|gfZ h O O (λhb5 h=>?_) (λhb5 h=>?_)
  ·refine wZ rg<|au (aZ 2 O) fo dZ gb O O (v:=ay m) O<|gTZ O O hb5<|wZ rg<|clZ O<|pH h λr9 h=>gTZ O O hb5<|wZ rg<|fH O<|wZ rg<|aR O hb5 (v:=.bool (!r9)) O<|mvZ (.bool<|!r9) O<|gfZ h O O (λhb6 h=>?_) (λhb6 h=>?_)
   ·refine mvZ (iZ i) O<|gTZ O O hb6<|wZ rg<|bb O O<|wZ rg<|aR O hb6 (v:=.bool (decide<|i<0)) O (mvZ (.bool<|decide<|i<0) O<|gfZ h O O (λhb7 h=>?_) (λhb7 h=>?_))
    ·exact mvZ (iZ i) O<|gTZ O O hb7<|wZ rg<|au (aZ 2 O) fo dZ gb O O (v:=ay m) O<|gTZ O O hb7<|wZ rg<|clZ O<|dg h λr10 h=>gTZ O O hb7<|wZ rg<|ez O O<|wZ rg<|aR O hb7 (v:=.bool (decide<|r10<=i)) O (nZ<|⟨((decide<|r10<=i),g1),(canon (fZ<|fZ<|fZ<|fn)<|sc O<|sn),h⟩)
    exact gFZ O O hb7 O<|gFZ O O hb7 O<|gFZ O O hb7 O<|wZ rg<|aX O hb7 (v:=.bool true) O<|nZ<|⟨(true,g1),(canon (fZ<|fZ<|fZ<|fn)<|sc O<|sn),h⟩
   exact gFZ O O hb6 O<|wZ rg<|aX O hb6 (v:=.bool true) O<|mvZ (.bool true) O<|gFZ O O O O<|gFZ O O O O<|gFZ O O O O<|gFZ O O O O<|wZ rg<|aX O O (v:=.bool true) O<|nZ<|⟨(true,g1),(canon (fZ<|fZ<|fZ<|fn)<|sc O<|sn),h⟩
  exact gFZ O O hb5 O<|gFZ O O hb5 O<|wZ rg<|aX O hb5 (v:=.bool true) O<|mvZ (.bool true) O<|gFZ O O O O<|gFZ O O O O<|wZ rg<|aX O O (v:=.bool true) O<|mvZ (.bool true) O<|gFZ O O O O<|gFZ O O O O<|gFZ O O O O<|gFZ O O O O<|wZ rg<|aX O O (v:=.bool true) O<|nZ<|⟨(true,g1),(canon (fZ<|fZ<|fZ<|fn)<|sc O<|sn),h⟩
 exact gFZ O O hb4 O<|gFZ O O hb4 O<|wZ rg<|aX O hb4 (v:=.bool true) O<|mvZ (.bool true) O<|gFZ O O O O<|gFZ O O O O<|gFZ O O O O<|wZ rg<|aX O O (v:=.bool true) O<|mvZ (.bool true) O<|gFZ O O O O<|gFZ O O O O<|wZ rg<|aX O O (v:=.bool true) O<|mvZ (.bool true) O<|gFZ O O O O<|gFZ O O O O<|gFZ O O O O<|gFZ O O O O<|wZ rg<|aX O O (v:=.bool true) O<|nZ<|⟨(true,g1),(canon (fZ<|fZ<|fZ<|fn)<|sc O<|sn),h⟩
end Go.Proofs.YtnjgdkfhgmebjaaGreat
