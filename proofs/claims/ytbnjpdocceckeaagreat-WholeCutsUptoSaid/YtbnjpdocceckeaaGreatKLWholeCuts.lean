/- Walks of functions. Conditions: none. -/
import Derived.Test.YtbnjpdocceckeaaGreatWa
import Derived.Test.YtbnjpdocceckeaaGreatGgTy
import Derived.Test.YtbnjpdocceckeaaGreatGj
import Derived.Test.YtbnjpdocceckeaaGreatK1
import Derived.Test.YtbnjpdocceckeaaGreatK2
import Derived.Test.YtbnjpdocceckeaaGreatK4
set_option linter.all false
namespace Go.Proofs.YtbnjpdocceckeaaGreat
open Go.Gg
set_option maxRecDepth 100000
set_option maxHeartbeats 2000000
variable{S:St}{R:AV->St->Prop}
theorem tH{f:GFormula}{Q:Bool->Prop}(h:mJ f Q)(L:∀r1,Q r1->R (AV.bool r1) S) :Ctr Tryz.prog 3 [aD f] S R:=by
 refine ar Tryz.func3 rfl Tryz.ntmps3 Tryz.results3 Ql (λW H=>?_);refine wk 6 λg1 h=>?_;refine Ud (γ:=Nat) h (λy=>aC [(1,.ptr W 1 y.2 0 0),(29,.bool y.1)]) (λy=>Qr S W [(1,.arr 3 [aD f],y.2)]) (λy h=>?_) (λ_ h=>?_)
 ·obtain⟨x,g2⟩:=y;refine cZ h O (λB h=>?_) (λB h=>?_);·exact dj<|aj<|Qn O<|qB h λr h=>RJ (.bool r) O<|eT<|Qv H<|L _ h
  refine wk 4 λh=>?_
  refine aj<|Qn O<|tc h λr1 r2 h=>?_
  refine wk 9 λh=>?_
  refine aj<|Qn O<|pu h λr3 r4 h=>?_
  refine wk 9 λh=>?_
  refine aj<|Qn O<|uD h λr5 r6 h=>?_
  refine wk 10 λh=>?_
  refine aj<|Qn O<|zZ h λr7 r8 h=>?_
  refine wk 9 λh=>?_
  refine aj<|Qn O<|qF h λr9 SP h=>?_
  refine wk 9 λh=>?_
  refine aj<|Qn O<|fg h λXf XH h=>?_
  refine wk 12 λh=>?_
  refine T8 h O O (λB1 h=>?_) (λB1 h=>?_)
  ·refine wk 5 λh=>?_
   refine cZ h O (λB2 h=>?_) (λB2 h=>?_)
   ·refine wk 4 λh=>?_
    exact uZ<|Qv H<|L _ h
   refine wk 7 λh=>?_
   refine cZ h O (λB3 h=>?_) (λB3 h=>?_)
   ·refine wk 3 λh=>?_
    refine aj<|Qn O<|mD h λYy h=>Uk (.bool Yy) O<|Te h O O (λB4 h=>?_) (λB4 h=>?_)
    ·refine wk 2 λh=>?_
     refine aj<|Qn O<|mD h λXe h=>?_
     refine wk 2 λh=>?_
     refine Te h O O (λB5 h=>?_) (λB5 h=>?_)
     ·refine wk 2 λh=>?_
      refine aj<|Qn O<|mD h λZP h=>?_
      refine wk 2 λh=>?_
      refine Te h O O (λB6 h=>?_) (λB6 h=>?_)
      ·refine wk 2 λh=>?_
       refine aj<|Qn O<|mD h λZO h=>?_
       refine wk 3 λh=>?_
       exact uZ<|Qv H<|L _ h
      refine wk 4 λh=>?_
      exact uZ<|Qv H<|L _ h
     refine wk 8 λh=>?_
     exact uZ<|Qv H<|L _ h
    refine wk 12 λh=>?_
    exact uZ<|Qv H<|L _ h
   refine wk 8 λh=>?_
   refine wZ W<|aT Pi Pw NR (es:=[bd 36 r4,bd 36 r6,bd 36 r8,bd 36 SP]) O (kk:=1) O O O O (by cases r4<;>cases r6<;>cases r8<;>cases SP<;>rfl) O (λg3=>?_)
   refine wk 4 λh=>?_
   refine Rf h (λy=>aC [(1,.ptr W 1 g2 0 0),(5,aF r3),(6,bd 36 r4),(7,aF r5),(8,bd 36 r6),(9,aF r7),(10,bd 36 r8),(11,aF r9),(12,bd 36 SP),(88,.sl 1 W 88 g3 0 ([r4,r6,r8,SP].length)),(89,iZ ([r4,r6,r8,SP].length:Int)),(90,iZ y)]) (λy=>Qr S W [(1,.arr 3 [aD f],g2),(88,.arr 1 (List.map (bd 36) [r4,r6,r8,SP]),g3)]) Rj (λx1 _ h=>?_);refine wk 5 λh=>?_
   refine cZ h O (λB7 h=>?_) (λB7 h=>?_)
   ·refine wk 6 λh J h=>?_;refine aj<|rq (aZ 88 O) HM NA O (oT J QK) O (v:=bd 36 (P9 [r4,r6,r8,SP] x1)) sE2 ?_
    refine wk 7 λh=>?_
    refine Te h O O (λB8 h=>?_) (λB8 h=>?_)
    ·refine wk 2 λh=>?_
     refine aj<|Qn O<|sG h λZM h=>?_
     refine wk 4 λh=>?_
     refine cZ h O (λB9 h=>?_) (λB9 h=>?_)
     ·refine wk 4 λh=>?_
      exact uZ<|Qv H<|L _ h
     exact wk 9999 trivial
    refine wk 4 λh=>?_
    refine Yo O O ?_;exact wk 9999 trivial
   refine wk 7 λh=>?_
   refine cZ h O (λB10 h=>?_) (λB10 h=>?_)
   ·refine wk 4 λh=>?_
    exact uZ<|Qv H<|L _ h
   refine kZ<|Ud (γ:=Nat) h (λy=>aC [(1,.ptr W 1 y.2 0 0),(9,aF r7),(11,aF r9),(12,bd 36 SP)]) (λy=>Qr S W [(1,.arr 3 [aD f],y.2)]) (λy h=>?_) (λ_ h=>?_)
   ·obtain⟨_,g4⟩:=y;refine Ud (γ:=Nat) h (λy=>aC [(1,.ptr W 1 y.2 0 0),(9,aF r7)]) (λy=>Qr S W [(1,.arr 3 [aD f],y.2)]) (λy h=>?_) (λ_ h=>?_)
    ·obtain⟨_,g5⟩:=y;refine wk 3 λh=>?_
     refine aj<|Qn O<|zS h λT3 ZL h=>?_
     refine wk 12 λh=>?_
     refine T8 h O O (λB11 h=>?_) (λB11 h=>?_)
     ·refine wk 11 λh=>?_
      refine cZ h O (λB12 h=>?_) (λB12 h=>?_)
      ·refine wk 4 λh=>?_
       exact uZ<|Qv H<|L _ h
      refine wk 9 λh=>?_
      refine Rf h (λy=>aC [(9,aF r7),(160,eL mv T3),(161,iZ (T3.length:Int)),(162,iZ y)]) (λy=>Qr S W []) Rj (λx2 _ h=>?_);refine wk 5 λh=>?_
      refine cZ h O (λB13 h=>?_) (λB13 h=>?_)
      ·refine wk 13 λg6 h G2 h=>?_;refine Wc h (λYP h=>?_) (λYP h=>?_)
       ·refine Vc.Qf mixed W (λ_=>eo) Ql ?_;refine wk 13 λh=>?_
        refine U_ O O ?_;refine wk 4 λh=>?_
        exact uZ<|Qv H<|L _ h
       refine Qp h (λG3 h=>Vc.Qf mixed W (λ_=>eo) Ql ?_);refine wk 13 λh=>?_
       refine dP O O<|ek bW Se dZ (λ_=>O) O O G3 ?_;refine wk 6 λh=>?_
       refine cZ h O (λB15 h=>?_) (λB15 h=>?_)
       ·refine wk 4 λh=>?_
        exact uZ<|Qv H<|L _ h
       exact wk 9999 trivial
      refine wk 5 λh=>?_
      exact uZ<|Qv H<|L _ h
     refine wk 6 λh=>?_
     refine U_ O O ?_;refine wk 4 λh=>?_
     exact uZ<|Qv H<|L _ h
    refine wk 5 λh=>?_
    refine cZ h O (λB16 h=>?_) (λB16 h=>?_)
    ·refine dj<|Uk (aF r9) O<|aj<|Qn O<|wJ h λXd U3 h=>?_
     refine wk 11 λh=>?_
     refine Te h O O (λB17 h=>?_) (λB17 h=>?_)
     ·refine wk 2 λh=>?_
      refine aj<|Qn O<|sG h λZK h=>?_
      refine wk 4 λh=>?_
      refine T8 h O O (λB18 h=>?_) (λB18 h=>?_)
      ·refine wk 5 λh=>?_
       refine Te h O O (λB19 h=>?_) (λB19 h=>?_)
       ·refine wk 4 λh=>?_
        refine aj<|Qn O<|gc h λZJ h=>?_
        refine wk 6 λh=>?_
        refine cZ h O (λB20 h=>?_) (λB20 h=>?_)
        ·refine wk 4 λh=>?_
         exact uZ<|Qv H<|L _ h
        exact wk 9999 trivial
       refine wk 7 λh=>?_
       refine Yo O O ?_;exact wk 9999 trivial
      refine wk 9 λh=>?_
      refine U_ O O ?_;refine wk 4 λh=>?_
      exact uZ<|Qv H<|L _ h
     refine wk 10 λh=>?_
     refine Te h O O (λB21 h=>?_) (λB21 h=>?_)
     ·refine wk 4 λh=>?_
      refine aj<|Qn O<|gc h λZH h=>?_
      refine wk 6 λh=>?_
      refine cZ h O (λB22 h=>?_) (λB22 h=>?_)
      ·refine wk 4 λh=>?_
       exact uZ<|Qv H<|L _ h
      exact wk 9999 trivial
     refine wk 7 λh=>?_
     refine Yo O O ?_;exact wk 9999 trivial
    exact wk 9999 trivial
   refine wk 5 λh=>?_
   refine Te h O O (λB23 h=>?_) (λB23 h=>?_)
   ·refine wk 4 λh=>?_
    refine aj<|Qn O<|gc h λZG h=>?_
    refine wk 4 λh=>?_
    refine T8 h O O (λB24 h=>?_) (λB24 h=>?_)
    ·refine wk 5 λh=>?_
     refine Te h O O (λB25 h=>?_) (λB25 h=>?_)
     ·refine wk 4 λh=>?_
      refine aj<|Qn O<|gc h λZF h=>?_
      refine wk 6 λh=>?_
      refine cZ h O (λB26 h=>?_) (λB26 h=>?_)
      ·refine wk 4 λh=>?_
       exact uZ<|Qv H<|L _ h
      exact wk 9999 trivial
     refine wk 7 λh=>?_
     refine Yo O O ?_;exact wk 9999 trivial
    refine wk 9 λh=>?_
    refine U_ O O ?_;refine wk 4 λh=>?_
    exact uZ<|Qv H<|L _ h
   refine wk 11 λh=>?_
   refine Te h O O (λB27 h=>?_) (λB27 h=>?_)
   ·refine wk 4 λh=>?_
    refine aj<|Qn O<|gc h λZD h=>?_
    refine wk 6 λh=>?_
    refine cZ h O (λB28 h=>?_) (λB28 h=>?_)
    ·refine wk 4 λh=>?_
     exact uZ<|Qv H<|L _ h
    exact wk 9999 trivial
   refine wk 7 λh=>?_
   refine Yo O O ?_;exact wk 9999 trivial
  refine wk 3 λh=>?_
  refine U_ O O ?_;refine wk 4 λh=>?_
  exact uZ<|Qv H<|L _ h
 refine rZ<|aj<|Qn O<|qB h λr28 h=>?_
 refine wk 2 λh=>?_
 refine T8 h O O (λB29 h=>?_) (λB29 h=>?_)
 ·refine wk 2 λh=>?_
  refine aj<|Qn O<|zI h λr29 h=>?_
  exact wk 9999 trivial
 exact wk 9999 trivial
end Go.Proofs.YtbnjpdocceckeaaGreat
