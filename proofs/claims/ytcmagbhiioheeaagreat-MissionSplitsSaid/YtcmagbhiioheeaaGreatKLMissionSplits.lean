/- Walks of functions. Conditions: none. -/
import Derived.Test.YtcmagbhiioheeaaGreatWa
import Derived.Test.YtcmagbhiioheeaaGreatGgTy
import Derived.Test.YtcmagbhiioheeaaGreatK1
import Derived.Test.YtcmagbhiioheeaaGreatK5
import Derived.Test.YtcmagbhiioheeaaGreatK4
namespace Go.Proofs.YtcmagbhiioheeaaGreat
open Go.Gg
set_option maxRecDepth 100000
variable {S:St} {R:AV->St->Prop}
theorem nI {m:GMission} {j:Int} {share:GRat} {Q:Bool->Prop} (h:jV m j share Q) (hQ:∀r1,Q r1->R (AV.bool r1) S) :
  Ctr Tryz.prog 3 [az m,iZ j,aq share] S R:=by
 refine aG Tryz.func3 rfl Tryz.ntmps3 Tryz.results3 krZ (λrg hrg=>?_)
 refine ah<|wZ rg<|bA (v:=az m) O O (kk:=2) O dZ (λg1=>wZ rg<|bA (v:=aq share) O O (kk:=3) O dZ (λg2=>asZ (.bool false) O<|nZ<|qZ<|jgZ (γ:=Nat×Nat) h (λy=>a_ [(1,iZ j),(3,.ptr rg 3 y.2.1 0 0),(5,.ptr rg 5 y.2.2 0 0),(41,.bool y.1)]) (λy=>stL S rg [(3,.arr 2 [az m],y.2.1),(5,.arr 3 [aq share],y.2.2)]) (λy h=>?_) (λ_ h=>?_)))
 ·obtain⟨x,⟨g3,g4⟩⟩:=y
  refine cZ h O (λhb h=>?_) (λhb h=>?_)
  ·exact ah<|ac<|clZ O<|oH h λr h=>asZ (.bool r) O<|aE<|gv1 hrg<|hQ _ h
  refine kZ<|ah<|ac<|ar (aZ 3 O) c_ dZ eP O O (v:=az m) O<|mvZ (iZ j) O<|ac<|ar (aZ 5 O) bb dZ bH O O (v:=aq share) O<|ac<|clZ O<|rG h λr1 r2 h=>mvZ (.tuple [az r1,aW 41 r2]) O<|ac<|au (v:=az r1) O O O<|ac<|au (v:=aW 41 r2) O O O<|wZ rg<|aT oS Cy (kk:=2) O (λg5=>ac<|ay (aZ 7 O) c_ dZ O (w:=az r1) O O O (v:=az r1) O aQ<|asZ (aW 41 r2) O<|nZ<|qZ<|ah<|mvZ (aW 41 r2) O<|ac<|cH fX (E:=41) O O O<|mvZ (.bool<|Option.isSome r2) O<|gfZ h O O (λhb1 h=>?_) (λhb1 h=>?_))
  ·refine ac<|ar (aZ 7 O) c_ dZ eP O O (v:=az r1) O<|gTZ O O hb1<|ac<|clZ O<|iS h λr3 h=>gTZ O O hb1<|ac<|fA O O<|ac<|aY O hb1 (v:=.bool (r3 != 0)) O<|nZ<|cZ h O (λhb2 h=>?_) (λhb2 h=>?_)
   ·exact ah<|asZ (.bool false) O<|aE<|gv1 hrg<|hQ _ h
   refine kZ<|ah<|ac<|ar (aZ 3 O) c_ dZ eP O O (v:=az m) O<|ac<|clZ O<|jD h λr4 r5 h=>mvZ (.tuple [aq r4,aW 41 r5]) O<|ac<|au (v:=aq r4) O O O<|ac<|au (v:=aW 41 r5) O O O<|wZ rg<|aT bN dH (kk:=3) O (λg6=>ac<|ay (aZ 9 O) bb dZ O (w:=aq r4) O O O (v:=aq r4) O aQ<|asZ (aW 41 r5) O<|aU<|ac<|ar (aZ 7 O) c_ dZ eP O O (v:=az r1) O<|ac<|clZ O<|jD h λr6 r7 h=>mvZ (.tuple [aq r6,aW 41 r7]) O<|ac<|au (v:=aq r6) O O O<|ac<|au (v:=aW 41 r7) O O O<|wZ rg<|aT bN dH (kk:=3) O (λg7=>ac<|ay (aZ 11 O) bb dZ O (w:=aq r6) O O O (v:=aq r6) O aQ<|asZ (aW 41 r7) O<|nZ<|qZ<|ah<|mvZ (aW 41 r7) O<|ac<|cH fX (E:=41) O O O<|nZ<|cZ h O (λhb3 h=>?_) (λhb3 h=>?_)))
   ·refine ah<|mvZ (aW 41 r7) O<|ac<|clZ O<|Ai h λr8 h=>mvZ (.bool r8) O<|gtZ h O O (λhb4 h=>?_) (λhb4 h=>?_)
    ·exact mvZ (aW 41 r5) O<|gTZ O O hb4<|ac<|lz fX (E:=41) O O O<|ac<|aS O hb4 (v:=.bool (Option.isNone r5)) O<|asZ (.bool<|Option.isNone r5) O<|aE<|gv1 hrg<|hQ _ h
    exact gFZ O O hb4 O<|ac<|aY O hb4 (v:=.bool false) O<|asZ (.bool false) O<|aE<|gv1 hrg<|hQ _ h
   refine kZ<|ah<|mvZ (aW 41 r5) O<|ac<|lz fX (E:=41) O O O<|mvZ (.bool<|Option.isNone r5) O<|gtZ h O O (λhb5 h=>?_) (λhb5 h=>?_)
   ·exact ac<|ar (aZ 9 O) bb dZ bH O O (v:=aq r4) O<|gTZ O O hb5<|ac<|ar (aZ 11 O) bb dZ bH O O (v:=aq r6) O<|gTZ O O hb5<|ac<|clZ O<|qg h λr9 h=>gTZ O O hb5<|ac<|bJ O O<|ac<|aS O hb5 (v:=.bool (r9 == 0)) O<|asZ (.bool<|r9 == 0) O<|aE<|gv1 hrg<|hQ _ h
   exact gFZ O O hb5 O<|gFZ O O hb5 O<|gFZ O O hb5 O<|ac<|aY O hb5 (v:=.bool false) O<|asZ (.bool false) O<|aE<|gv1 hrg<|hQ _ h
  exact gFZ O O hb1 O<|gFZ O O hb1 O<|ac<|aS O hb1 (v:=.bool true) O<|nZ<|cTZ O O<|ah<|asZ (.bool false) O<|aE<|gv1 hrg<|hQ _ h
 refine rZ<|ac<|clZ O<|oH h λr10 h=>ac<|fQ O<|mvZ (.bool<|!r10) O<|gfZ h O O (λhb6 h=>?_) (λhb6 h=>?_)
 ·refine ac<|ar (aZ 3 O) c_ dZ eP O O (v:=az m) O<|gTZ O O hb6<|ac<|clZ O<|uf h λr11 h=>gTZ O O hb6<|ac<|fQ O<|ac<|aY O hb6 (v:=.bool (!r11)) O<|mvZ (.bool<|!r11) O<|gfZ h O O (λhb7 h=>?_) (λhb7 h=>?_)
  ·refine ac<|ar (aZ 3 O) c_ dZ eP O O (v:=az m) O<|gTZ O O hb7<|ac<|clZ O<|qF h λr12 h=>gTZ O O hb7<|ac<|fQ O<|ac<|aY O hb7 (v:=.bool (!r12)) O<|mvZ (.bool<|!r12) O<|gfZ h O O (λhb8 h=>?_) (λhb8 h=>?_)
   ·refine ac<|ar (aZ 3 O) c_ dZ eP O O (v:=az m) O<|gTZ O O hb8<|ac<|clZ O<|db h λr13 h=>gTZ O O hb8<|ac<|cY O O<|ac<|aY O hb8 (v:=.bool (decide<|5<r13)) O (mvZ (.bool<|decide<|5<r13) O<|gfZ h O O (λhb9 h=>?_) (λhb9 h=>?_))
    ·refine ac<|ar (aZ 3 O) c_ dZ eP O O (v:=az m) O<|gTZ O O hb9<|ac<|ar (aZ 5 O) bb dZ bH O O (v:=aq share) O<|gTZ O O hb9<|ac<|clZ O<|vN h λr14 h=>ac<|aY O hb9 (v:=.bool r14) O<|mvZ (.bool r14) O<|gfZ h O O (λhb10 h=>?_) (λhb10 h=>?_)
     ·exact ac<|ar (aZ 3 O) c_ dZ eP O O (v:=az m) O<|gTZ O O hb10<|mvZ (iZ j) O<|gTZ O O hb10<|ac<|ar (aZ 5 O) bb dZ bH O O (v:=aq share) O<|gTZ O O hb10<|ac<|clZ O<|oZ h λr15 h=>gTZ O O hb10<|ac<|fA O O<|ac<|aY O hb10 (v:=.bool (r15 != 0)) O<|nZ<|⟨((r15 != 0),(g1,g2)),(canon (aN<|fn)<|sc O<|sc O<|sn),h⟩
     exact gFZ O O hb10 O<|gFZ O O hb10 O<|gFZ O O hb10 O<|gFZ O O hb10 O<|ac<|aS O hb10 (v:=.bool true) O<|nZ<|⟨(true,(g1,g2)),(canon (aN<|fn)<|sc O<|sc O<|sn),h⟩
    exact gFZ O O hb9 O<|gFZ O O hb9 O<|ac<|aS O hb9 (v:=.bool true) O<|mvZ (.bool true) O<|gFZ O O O O<|gFZ O O O O<|gFZ O O O O<|gFZ O O O O<|gFZ O O O O<|ac<|aS O O (v:=.bool true) O<|nZ<|⟨(true,(g1,g2)),(canon (aN<|fn)<|sc O<|sc O<|sn),h⟩
   exact gFZ O O hb8 O<|gFZ O O hb8 O<|ac<|aS O hb8 (v:=.bool true) O<|mvZ (.bool true) O<|gFZ O O O O<|gFZ O O O O<|gFZ O O O O<|ac<|aS O O (v:=.bool true) O<|mvZ (.bool true) O<|gFZ O O O O<|gFZ O O O O<|gFZ O O O O<|gFZ O O O O<|gFZ O O O O<|ac<|aS O O (v:=.bool true) O<|nZ<|⟨(true,(g1,g2)),(canon (aN<|fn)<|sc O<|sc O<|sn),h⟩
  exact gFZ O O hb7 O<|gFZ O O hb7 O<|ac<|aS O hb7 (v:=.bool true) O<|mvZ (.bool true) O<|gFZ O O O O<|gFZ O O O O<|gFZ O O O O<|ac<|aS O O (v:=.bool true) O<|mvZ (.bool true) O<|gFZ O O O O<|gFZ O O O O<|gFZ O O O O<|ac<|aS O O (v:=.bool true) O<|mvZ (.bool true) O<|gFZ O O O O<|gFZ O O O O<|gFZ O O O O<|gFZ O O O O<|gFZ O O O O<|ac<|aS O O (v:=.bool true) O<|nZ<|⟨(true,(g1,g2)),(canon (aN<|fn)<|sc O<|sc O<|sn),h⟩
 exact gFZ O O hb6 O<|gFZ O O hb6 O<|ac<|aS O hb6 (v:=.bool true) O<|mvZ (.bool true) O<|gFZ O O O O<|gFZ O O O O<|gFZ O O O O<|ac<|aS O O (v:=.bool true) O<|mvZ (.bool true) O<|gFZ O O O O<|gFZ O O O O<|gFZ O O O O<|ac<|aS O O (v:=.bool true) O<|mvZ (.bool true) O<|gFZ O O O O<|gFZ O O O O<|gFZ O O O O<|ac<|aS O O (v:=.bool true) O<|mvZ (.bool true) O<|gFZ O O O O<|gFZ O O O O<|gFZ O O O O<|gFZ O O O O<|gFZ O O O O<|ac<|aS O O (v:=.bool true) O<|nZ<|⟨(true,(g1,g2)),(canon (aN<|fn)<|sc O<|sc O<|sn),h⟩
end Go.Proofs.YtcmagbhiioheeaaGreat
