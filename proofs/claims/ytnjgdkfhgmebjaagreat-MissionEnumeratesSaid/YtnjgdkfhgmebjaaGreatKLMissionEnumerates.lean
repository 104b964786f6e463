/- Walks of functions. Conditions: none. -/
import Derived.Test.YtnjgdkfhgmebjaaGreatWa
import Derived.Test.YtnjgdkfhgmebjaaGreatGgTy
import Derived.Test.YtnjgdkfhgmebjaaGreatK1
import Derived.Test.YtnjgdkfhgmebjaaGreatK4
namespace Go.Proofs.YtnjgdkfhgmebjaaGreat
open Go.Gg
set_option maxRecDepth 100000
variable {S:St} {R:AV->St->Prop}
theorem sO {m:GMission} {Q:Bool->Prop} (h:mJ m Q) (hQ:∀r1,Q r1->R (AV.bool r1) S) :
  Ctr Tryz.prog 5 [aO m] S R:=by
 refine aS Tryz.func5 rfl Tryz.ntmps5 Tryz.results5 (by kernel_rfl) (λrg hrg=>?_)
 refine qZ (rZ (wZ rg (cM (v:=aO m) O O (kk:=2) O dZ (λg1=>asZ (.bool false) O (nZ (qZ (jgZ (γ:=Nat) h (λy=>bI [(1,.ptr rg 1 y.2 0 0),(11,.bool y.1)]) (λy=>stL S rg [(1,.arr 2 [aO m],y.2)]) (λy h=>?_) (λ_ h=>?_))))))))
 ·obtain ⟨x,g2⟩:=y
  refine cZ h O (λhb h=>?_) (λhb h=>?_)
  ·exact qZ (rZ (wZ rg (clZ O (yN h λr h=>asZ (.bool r) O (nZ (uZ (aC (v:=.bool r) O (aE (goZ hrg (hQ _ h))))))))))
  refine kZ (qZ (rZ (wZ rg (aL (atL (k:=1) O) oM dZ qK O O (v:=aO m) O (wZ rg (clZ O (pV h λr1 r2 h=>mvZ (.tuple [eL aH r1,bG 82 r2]) O (wZ rg (aJ (v:=eL aH r1) O O O (wZ rg (aJ (v:=bG 82 r2) O O O (asZ (eL aH r1) O (asZ (bG 82 r2) O (nZ (qZ (rZ (wZ rg (aL (atL (k:=1) O) oM dZ qK O O (v:=aO m) O (wZ rg (clZ O (rL h λcode h=>asZ (iZ code) O (nZ (jgZ (γ:=Nat) h (λy=>bI [(1,.ptr rg 1 y.2 0 0),(3,eL aH r1),(4,bG 82 r2),(5,iZ y.1)]) (λy=>stL S rg [(1,.arr 2 [aO m],y.2)]) (λy h=>?_) (λ_ h=>?_))))))))))))))))))))))))
  ·obtain ⟨code1,g3⟩:=y
   refine qZ (qZ (rZ (mvZ (iZ code1) O (wZ rg (jN O O (nZ (cZ h O (λhb1 h=>?_) (λhb1 h=>?_))))))))
   ·refine qZ (rZ (mvZ (eL aH r1) O (wZ rg (aV jK O (wZ rg (cH O O (mvZ (.bool ((r1.length:Int) == 0)) O (gtZ h O O (λhb2 h=>?_) (λhb2 h=>?_)))))))))
    ·exact mvZ (bG 82 r2) O (gTZ O O hb2 (wZ rg (clZ O (aGz h λr3 h=>gTZ O O hb2 (mvZ (iZ code1) O (gTZ O O hb2 (wZ rg (cH O O (wZ rg (bV O hb2 (v:=.bool (r3 == code1)) O (asZ (.bool (r3 == code1)) O (nZ (uZ (aC (v:=.bool (r3 == code1)) O (aE (goZ hrg (hQ _ h)))))))))))))))))
    exact gFZ O O hb2 O (gFZ O O hb2 O (gFZ O O hb2 O (wZ rg (bP O hb2 (v:=.bool false) O (asZ (.bool false) O (nZ (uZ (aC (v:=.bool false) O (aE (goZ hrg (hQ _ h)))))))))))
   refine kZ (qZ (rZ (mvZ (bG 82 r2) O (wZ rg (sL mT (E:=82) O O O (mvZ (.bool (Option.isNone r2)) O (gtZ h O O (λhb3 h=>?_) (λhb3 h=>?_))))))))
   ·exact mvZ (eL aH r1) O (gTZ O O hb3 (wZ rg (aL (atL (k:=1) O) oM dZ qK O O (v:=aO m) O (gTZ O O hb3 (wZ rg (clZ O (aAy h λr4 h=>gTZ O O hb3 (wZ rg (clZ O (aAW h λr5 h=>wZ rg (bV O hb3 (v:=.bool r5) O (asZ (.bool r5) O (nZ (uZ (aC (v:=.bool r5) O (aE (goZ hrg (hQ _ h))))))))))))))))))
   exact gFZ O O hb3 O (gFZ O O hb3 O (gFZ O O hb3 O (wZ rg (bP O hb3 (v:=.bool false) O (asZ (.bool false) O (nZ (uZ (aC (v:=.bool false) O (aE (goZ hrg (hQ _ h)))))))))))
  refine qZ (rZ (mvZ (iZ code) O (wZ rg (cH O O (mvZ (.bool (code == 0)) O (gtZ h O O (λhb4 h=>?_) (λhb4 h=>?_)))))))
  ·refine wZ rg (aL (atL (k:=1) O) oM dZ qK O O (v:=aO m) O (gTZ O O hb4 (wZ rg (clZ O (aEE h λr6 h=>wZ rg (bV O hb4 (v:=.bool r6) O (nZ (cZ h O (λhb5 h=>?_) (λhb5 h=>?_)))))))))
   ·exact rZ (asZ (iZ 4) O (nZ (⟨(4,g2),(canon (fZ (fZ (fZ (fZ (fn))))) (sc O (sn))),h⟩)))
   exact kZ (⟨(code,g2),(canon (fZ (fZ (fZ (fZ (fn))))) (sc O (sn))),h⟩)
  exact gFZ O O hb4 O (wZ rg (bP O hb4 (v:=.bool false) O (nZ (cFZ O O (kZ (⟨(code,g2),(canon (fZ (fZ (fZ (fZ (fn))))) (sc O (sn))),h⟩))))))
 refine rZ (wZ rg (clZ O (yN h λr7 h=>wZ rg (oZ O (mvZ (.bool (!r7)) O (gfZ h O O (λhb6 h=>?_) (λhb6 h=>?_)))))))
 ·exact wZ rg (aL (atL (k:=1) O) oM dZ qK O O (v:=aO m) O (gTZ O O hb6 (wZ rg (clZ O (aDE h λr8 h=>wZ rg (bP O hb6 (v:=.bool r8) O (nZ (⟨(r8,g1),(canon (fZ (fZ (fn))) (sc O (sn))),h⟩))))))))
 exact gFZ O O hb6 O (wZ rg (bV O hb6 (v:=.bool true) O (nZ (⟨(true,g1),(canon (fZ (fZ (fn))) (sc O (sn))),h⟩))))
end Go.Proofs.YtnjgdkfhgmebjaaGreat
