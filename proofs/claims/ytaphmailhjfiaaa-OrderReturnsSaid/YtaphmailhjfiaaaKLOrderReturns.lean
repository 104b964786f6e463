/- Walks of functions. Conditions: none. -/
import Derived.Test.YtaphmailhjfiaaaWa
import Derived.Test.YtaphmailhjfiaaaGgTy
import Derived.Test.YtaphmailhjfiaaaK1
import Derived.Test.YtaphmailhjfiaaaK2
namespace Go.Proofs.Ytaphmailhjfiaaa
open Go.Gg
set_option maxRecDepth 100000
variable {S:St} {R:AV->St->Prop}
theorem iv {f:GFormula} {Q:Bool->Prop} (h:fP f Q) (hQ:∀r1,Q r1->R (AV.bool r1) S) :
  Ctr Try.prog 3 [an f] S R:=by
 refine aJ Try.func3 rfl Try.ntmps3 Try.results3 krZ (λrg hrg=>?_)
 refine ac<|wZ rg<|c6 (v:=an f) O O (kk:=3) O dZ (λg1=>asZ (.bool false) O<|nZ<|qZ<|jgZ (γ:=Nat) h (λy=>aw [(1,.ptr rg 1 y.2 0 0),(29,.bool y.1)]) (λy=>stL S rg [(1,.arr 3 [an f],y.2)]) (λy h=>?_) (λ_ h=>?_))
 ·obtain⟨x,g2⟩:=y
  refine cZ h O (λhb h=>?_) (λhb h=>?_)
  ·exact ac<|aa<|clZ O<|iL h λr h=>asZ (.bool r) O<|aI<|gv1 hrg<|hQ _ h
  refine kZ<|ac<|aa<|a8 (aZ 1 O) dH dZ fS O O (v:=an f) O<|aa<|clZ O<|kV h λr1 r2 h=>mvZ (.tuple [an r1,a_ 65 r2]) O<|aa<|au (v:=an r1) O O O<|aa<|au (v:=a_ 65 r2) O O O<|wZ rg<|b8 l5 ui (kk:=3) O (λg3=>aa<|bc (aZ 3 O) dH dZ O (w:=an r1) O O O (v:=an r1) O bB<|asZ (a_ 65 r2) O<|nZ<|qZ<|ac<|mvZ (a_ 65 r2) O<|aa<|cY hH (E:=65) O O O<|mvZ (.bool<|Option.isSome r2) O<|gfZ h O O (λhb1 h=>?_) (λhb1 h=>?_))
  ·refine aa<|a8 (aZ 3 O) dH dZ fS O O (v:=an r1) O<|gTZ O O hb1<|aa<|clZ O<|iF h λr3 h=>gTZ O O hb1<|aa<|eZ O O<|aa<|aA O hb1 (v:=.bool (r3 != 0)) O<|mvZ (.bool<|r3 != 0) O<|gfZ h O O (λhb2 h=>?_) (λhb2 h=>?_)
   ·refine aa<|aT bI O<|gTZ O O hb2<|aa<|af (aZ 3 O) sz3 ag3 O O (v:=iZ r1.Vars) O<|gTZ O O hb2<|aa<|aT bI O<|gTZ O O hb2<|aa<|af (aZ 1 O) sz3 ag3 O O (v:=iZ f.Vars) O<|gTZ O O hb2<|aa<|eZ O O<|aa<|aA O hb2 (v:=.bool (r1.Vars != f.Vars)) O<|nZ<|cZ h O (λhb3 h=>?_) (λhb3 h=>?_)
    ·exact ac<|asZ (.bool false) O<|aI<|gv1 hrg<|hQ _ h
    refine kZ<|ac<|aa<|a8 (aZ 1 O) dH dZ fS O O (v:=an f) O<|aa<|clZ O<|fW h λr4 r5 h=>mvZ (.tuple [aM r4,a_ 65 r5]) O<|aa<|au (v:=aM r4) O O O<|aa<|au (v:=a_ 65 r5) O O O<|asZ (aM r4) O<|asZ (a_ 65 r5) O<|ba<|aa<|a8 (aZ 1 O) dH dZ fS O O (v:=an f) O<|aa<|clZ O<|eH h λr6 r7 h=>mvZ (.tuple [aM r6,a_ 65 r7]) O<|aa<|au (v:=aM r6) O O O<|aa<|au (v:=a_ 65 r7) O O O<|asZ (aM r6) O<|asZ (a_ 65 r7) O<|ba<|aa<|a8 (aZ 1 O) dH dZ fS O O (v:=an f) O<|aa<|clZ O<|ia h λr8 r9 h=>mvZ (.tuple [aM r8,a_ 65 r9]) O<|aa<|au (v:=aM r8) O O O<|aa<|au (v:=a_ 65 r9) O O O<|asZ (aM r8) O<|asZ (a_ 65 r9) O<|ba<|aa<|a8 (aZ 3 O) dH dZ fS O O (v:=an r1) O<|aa<|clZ O<|fW h λr10 r11 h=>mvZ (.tuple [aM r10,a_ 65 r11]) O<|aa<|au (v:=aM r10) O O O<|aa<|au (v:=a_ 65 r11) O O O<|asZ (aM r10) O<|asZ (a_ 65 r11) O<|ba<|aa<|a8 (aZ 3 O) dH dZ fS O O (v:=an r1) O<|aa<|clZ O<|eH h λr12 r13 h=>mvZ (.tuple [aM r12,a_ 65 r13]) O<|aa<|au (v:=aM r12) O O O<|aa<|au (v:=a_ 65 r13) O O O<|asZ (aM r12) O<|asZ (a_ 65 r13) O<|nZ<|qZ<|rZ ?_
    refine aa<|a8 (aZ 3 O) dH dZ fS O O (v:=an r1) O<|aa<|clZ O<|ia h λr14 r15 h=>mvZ (.tuple [aM r14,a_ 65 r15]) O<|aa<|au (v:=aM r14) O O O<|aa<|au (v:=a_ 65 r15) O O O<|asZ (aM r14) O<|asZ (a_ 65 r15) O<|nZ<|qZ<|ac<|mvZ (a_ 65 r5) O<|aa<|cY hH (E:=65) O O O<|mvZ (.bool<|Option.isSome r5) O<|gfZ h O O (λhb4 h=>?_) (λhb4 h=>?_)
    ·refine mvZ (a_ 65 r7) O<|gTZ O O hb4<|aa<|cY hH (E:=65) O O O<|aa<|aA O hb4 (v:=.bool (Option.isSome r7)) O<|mvZ (.bool<|Option.isSome r7) O<|gfZ h O O (λhb5 h=>?_) (λhb5 h=>?_)
     ·refine mvZ (a_ 65 r9) O<|gTZ O O hb5<|aa<|cY hH (E:=65) O O O<|aa<|aA O hb5 (v:=.bool (Option.isSome r9)) O<|mvZ (.bool<|Option.isSome r9) O<|gfZ h O O (λhb6 h=>?_) (λhb6 h=>?_)
      ·refine mvZ (a_ 65 r11) O<|gTZ O O hb6<|aa<|cY hH (E:=65) O O O<|aa<|aA O hb6 (v:=.bool (Option.isSome r11)) O<|mvZ (.bool<|Option.isSome r11) O<|gfZ h O O (λhb7 h=>?_) (λhb7 h=>?_)
       ·refine mvZ (a_ 65 r13) O<|gTZ O O hb7<|aa<|cY hH (E:=65) O O O<|aa<|aA O hb7 (v:=.bool (Option.isSome r13)) O<|mvZ (.bool<|Option.isSome r13) O<|gfZ h O O (λhb8 h=>?_) (λhb8 h=>?_)
        ·refine mvZ (a_ 65 r15) O<|gTZ O O hb8<|aa<|cY hH (E:=65) O O O<|aa<|aA O hb8 (v:=.bool (Option.isSome r15)) O<|nZ<|cZ h O (λhb9 h=>?_) (λhb9 h=>?_)
         ·exact ac<|asZ (.bool false) O<|aI<|gv1 hrg<|hQ _ h
         refine kZ<|qZ<|ac<|mvZ (aM r4) O<|aa<|aT bI O<|aa<|af (aZ 1 O) sz3 ag3 O O (v:=iZ f.Vars) O<|aa<|clZ O<|ez h λr16 h=>aa<|cY hH (E:=65) O O O<|mvZ (.bool<|Option.isSome r16) O<|gfZ h O O (λhb10 h=>?_) (λhb10 h=>?_)
         ·refine mvZ (aM r6) O<|gTZ O O hb10<|aa<|aT bI O<|gTZ O O hb10<|aa<|af (aZ 1 O) sz3 ag3 O O (v:=iZ f.Vars) O<|gTZ O O hb10<|aa<|clZ O<|ez h λr17 h=>gTZ O O hb10<|aa<|cY hH (E:=65) O O O<|aa<|aA O hb10 (v:=.bool (Option.isSome r17)) O<|mvZ (.bool<|Option.isSome r17) O<|gfZ h O O (λhb11 h=>?_) (λhb11 h=>?_)
          ·refine mvZ (aM r8) O<|gTZ O O hb11<|aa<|aT bI O<|gTZ O O hb11<|aa<|af (aZ 1 O) sz3 ag3 O O (v:=iZ f.Vars) O<|gTZ O O hb11<|aa<|clZ O<|ez h λr18 h=>gTZ O O hb11<|aa<|cY hH (E:=65) O O O<|aa<|aA O hb11 (v:=.bool (Option.isSome r18)) O<|nZ<|cZ h O (λhb12 h=>?_) (λhb12 h=>?_)
           ·exact ac<|asZ (.bool false) O<|aI<|gv1 hrg<|hQ _ h
           refine kZ<|ac<|mvZ (aM r4) O<|mvZ (aM r10) O<|aa<|clZ O<|eu h λr19 h=>mvZ (.bool r19) O<|gtZ h O O (λhb13 h=>?_) (λhb13 h=>?_)
           ·refine mvZ (aM r6) O<|gTZ O O hb13<|mvZ (aM r12) O<|gTZ O O hb13<|aa<|clZ O<|eu h λr20 h=>aa<|az O hb13 (v:=.bool r20) O<|mvZ (.bool r20) O<|gtZ h O O (λhb14 h=>?_) (λhb14 h=>?_)
            ·exact mvZ (aM r8) O<|gTZ O O hb14<|mvZ (aM r14) O<|gTZ O O hb14<|aa<|clZ O<|eu h λr21 h=>aa<|az O hb14 (v:=.bool r21) O<|asZ (.bool r21) O<|aI<|gv1 hrg<|hQ _ h
            exact gFZ O O hb14 O<|gFZ O O hb14 O<|aa<|aA O hb14 (v:=.bool false) O<|asZ (.bool false) O<|aI<|gv1 hrg<|hQ _ h
           exact gFZ O O hb13 O<|gFZ O O hb13 O<|aa<|aA O hb13 (v:=.bool false) O<|mvZ (.bool false) O<|gFZ O O O O<|gFZ O O O O<|gFZ O O O O<|aa<|aA O O (v:=.bool false) O<|asZ (.bool false) O<|aI<|gv1 hrg<|hQ _ h
          exact gFZ O O hb11 O<|gFZ O O hb11 O<|gFZ O O hb11 O<|gFZ O O hb11 O<|aa<|az O hb11 (v:=.bool true) O<|nZ<|cTZ O O<|ac<|asZ (.bool false) O<|aI<|gv1 hrg<|hQ _ h
         exact gFZ O O hb10 O<|gFZ O O hb10 O<|gFZ O O hb10 O<|gFZ O O hb10 O<|aa<|az O hb10 (v:=.bool true) O<|mvZ (.bool true) O<|gFZ O O O O<|gFZ O O O O<|gFZ O O O O<|gFZ O O O O<|gFZ O O O O<|aa<|az O O (v:=.bool true) O<|nZ<|cTZ O O<|ac<|asZ (.bool false) O<|aI<|gv1 hrg<|hQ _ h
        exact gFZ O O hb8 O<|aa<|az O hb8 (v:=.bool true) O<|nZ<|cTZ O O<|ac<|asZ (.bool false) O<|aI<|gv1 hrg<|hQ _ h
       exact gFZ O O hb7 O<|aa<|az O hb7 (v:=.bool true) O<|mvZ (.bool true) O<|gFZ O O O O<|gFZ O O O O<|aa<|az O O (v:=.bool true) O<|nZ<|cTZ O O<|ac<|asZ (.bool false) O<|aI<|gv1 hrg<|hQ _ h
      exact gFZ O O hb6 O<|aa<|az O hb6 (v:=.bool true) O<|mvZ (.bool true) O<|gFZ O O O O<|gFZ O O O O<|aa<|az O O (v:=.bool true) O<|mvZ (.bool true) O<|gFZ O O O O<|gFZ O O O O<|aa<|az O O (v:=.bool true) O<|nZ<|cTZ O O<|ac<|asZ (.bool false) O<|aI<|gv1 hrg<|hQ _ h
     exact gFZ O O hb5 O<|aa<|az O hb5 (v:=.bool true) O<|mvZ (.bool true) O<|gFZ O O O O<|gFZ O O O O<|aa<|az O O (v:=.bool true) O<|mvZ (.bool true) O<|gFZ O O O O<|gFZ O O O O<|aa<|az O O (v:=.bool true) O<|mvZ (.bool true) O<|gFZ O O O O<|gFZ O O O O<|aa<|az O O (v:=.bool true) O<|nZ<|cTZ O O<|ac<|asZ (.bool false) O<|aI<|gv1 hrg<|hQ _ h
    exact gFZ O O hb4 O<|aa<|az O hb4 (v:=.bool true) O<|mvZ (.bool true) O<|gFZ O O O O<|gFZ O O O O<|aa<|az O O (v:=.bool true) O<|mvZ (.bool true) O<|gFZ O O O O<|gFZ O O O O<|aa<|az O O (v:=.bool true) O<|mvZ (.bool true) O<|gFZ O O O O<|gFZ O O O O<|aa<|az O O (v:=.bool true) O<|mvZ (.bool true) O<|gFZ O O O O<|gFZ O O O O<|aa<|az O O (v:=.bool true) O<|nZ<|cTZ O O<|ac<|asZ (.bool false) O<|aI<|gv1 hrg<|hQ _ h
   exact gFZ O O hb2 O<|gFZ O O hb2 O<|gFZ O O hb2 O<|gFZ O O hb2 O<|aa<|az O hb2 (v:=.bool true) O<|nZ<|cTZ O O<|ac<|asZ (.bool false) O<|aI<|gv1 hrg<|hQ _ h
  exact gFZ O O hb1 O<|gFZ O O hb1 O<|aa<|az O hb1 (v:=.bool true) O<|mvZ (.bool true) O<|gFZ O O O O<|gFZ O O O O<|gFZ O O O O<|gFZ O O O O<|gFZ O O O O<|aa<|az O O (v:=.bool true) O<|nZ<|cTZ O O<|ac<|asZ (.bool false) O<|aI<|gv1 hrg<|hQ _ h
 refine rZ<|aa<|clZ O<|iL h λr22 h=>aa<|f9 O<|mvZ (.bool<|!r22) O<|gfZ h O O (λhb15 h=>?_) (λhb15 h=>?_)
 ·refine aa<|a8 (aZ 1 O) dH dZ fS O O (v:=an f) O<|gTZ O O hb15<|aa<|clZ O<|iF h λr23 h=>gTZ O O hb15<|aa<|eZ O O<|aa<|aA O hb15 (v:=.bool (r23 != 0)) O<|mvZ (.bool<|r23 != 0) O<|gfZ h O O (λhb16 h=>?_) (λhb16 h=>?_)
  ·exact aa<|aT cz O<|gTZ O O hb16<|aa<|af (aZ 1 O) fo f8 O O (v:=eL aP f.Nodes) O<|gTZ O O hb16<|aa<|aR fm O<|gTZ O O hb16<|aa<|df O O<|aa<|aA O hb16 (v:=.bool (decide<|40<(f.Nodes.length:Int))) O (nZ<|⟨((decide<|40<(f.Nodes.length:Int)),g1),(am (fZ<|fZ<|fn)<|sc O<|sn),h⟩)
  exact gFZ O O hb16 O<|gFZ O O hb16 O<|gFZ O O hb16 O<|aa<|az O hb16 (v:=.bool true) O<|nZ<|⟨(true,g1),(am (fZ<|fZ<|fn)<|sc O<|sn),h⟩
 exact gFZ O O hb15 O<|gFZ O O hb15 O<|aa<|az O hb15 (v:=.bool true) O<|mvZ (.bool true) O<|gFZ O O O O<|gFZ O O O O<|gFZ O O O O<|gFZ O O O O<|aa<|az O O (v:=.bool true) O<|nZ<|⟨(true,g1),(am (fZ<|fZ<|fn)<|sc O<|sn),h⟩
end Go.Proofs.Ytaphmailhjfiaaa
