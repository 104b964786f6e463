/- Walks of functions. Conditions: none. -/
import Derived.Test.YtnjgdkfhgmebjaaGreatWa
import Derived.Test.YtnjgdkfhgmebjaaGreatGgTy
import Derived.Test.YtnjgdkfhgmebjaaGreatK1
import Derived.Test.YtnjgdkfhgmebjaaGreatK4
import Derived.Test.YtnjgdkfhgmebjaaGreatK6
namespace Go.Proofs.YtnjgdkfhgmebjaaGreat
open Go.Gg
set_option maxRecDepth 100000
variable {S:St} {R:AV->St->Prop}
theorem zL {m:GMission} {Q:Bool->Prop} (h:sX m Q) (hQ:∀r1,Q r1->R (AV.bool r1) S) :
  Ctr Tryz.prog 10 [aK m] S R:=by
 refine aS Tryz.func10 rfl Tryz.ntmps10 Tryz.results10 (by kernel_rfl) (λrg hrg=>?_)
 refine qZ (rZ (wZ rg (cN (v:=aK m) O O (kk:=2) O dZ (λg1=>asZ (.bool false) O (nZ (qZ (jgZ (γ:=Nat) h (λy=>bL [(1,.ptr rg 1 y.2 0 0),(17,.bool y.1)]) (λy=>stL S rg [(1,.arr 2 [aK m],y.2)]) (λy h=>?_) (λ_ h=>?_))))))))
 ·obtain ⟨x,g2⟩:=y
  refine cZ h O (λhb h=>?_) (λhb h=>?_)
  ·exact qZ (rZ (wZ rg (clZ O (oE h λr h=>asZ (.bool r) O (nZ (uZ (aB (v:=.bool r) O (aE (goZ hrg (hQ _ h))))))))))
  refine kZ (qZ (rZ (wZ rg (aM (atL (k:=1) O) iM dZ kB O O (v:=aK m) O (wZ rg (clZ O (qK h λr1 r2 h=>mvZ (.tuple [eL aH r1,bA 82 r2]) O (wZ rg (aI (v:=eL aH r1) O O O (wZ rg (aI (v:=bA 82 r2) O O O (asZ (eL aH r1) O (asZ (bA 82 r2) O (nZ (qZ (rZ (wZ rg (aM (atL (k:=1) O) iM dZ kB O O (v:=aK m) O (wZ rg (clZ O (mA h λr3 r4 h=>mvZ (.tuple [aH r3,bA 82 r4]) O (wZ rg (aI (v:=aH r3) O O O (wZ rg (aI (v:=bA 82 r4) O O O (wZ rg (bD cS gP (kk:=3) O (λg3=>wZ rg (aL (atL (k:=5) O) bM dZ O (w:=aH r3) O O O (v:=aH r3) O bC (asZ (bA 82 r4) O (nZ (qZ (qZ (rZ (mvZ (bA 82 r2) O (wZ rg (eS kQ (E:=82) O O O (mvZ (.bool (Option.isSome r2)) O (gfZ h O O (λhb1 h=>?_) (λhb1 h=>?_))))))))))))))))))))))))))))))))))))))))
  ·refine mvZ (bA 82 r4) O (gTZ O O hb1 (wZ rg (eS kQ (E:=82) O O O (wZ rg (bI O hb1 (v:=.bool (Option.isSome r4)) O (mvZ (.bool (Option.isSome r4)) O (gfZ h O O (λhb2 h=>?_) (λhb2 h=>?_))))))))
   ·refine mvZ (eL aH r1) O (gTZ O O hb2 (wZ rg (aW iD O (gTZ O O hb2 (wZ rg (aQ fN O (gTZ O O hb2 (wZ rg (aC (atL (k:=1) O) nJ oP O O (v:=eL aF m.Phases) O (gTZ O O hb2 (wZ rg (aW lI O (gTZ O O hb2 (wZ rg (jC O O (wZ rg (bI O hb2 (v:=.bool ((r1.length:Int) != (m.Phases.length:Int))) O (nZ (cZ h O (λhb3 h=>?_) (λhb3 h=>?_))))))))))))))))))))
    ·exact qZ (rZ (asZ (.bool false) O (nZ (uZ (aB (v:=.bool false) O (aE (goZ hrg (hQ _ h))))))))
    refine kZ (qZ (rZ (wZ rg (cK zJ cS uR tU bM (ps:=[]) O O (v:=.agg [.bool false,.nil,.nil]) O (wZ rg (bD cS gP (kk:=3) O (λg4=>wZ rg (aL (atL (k:=7) O) bM dZ O (w:=.agg [.bool false,.nil,.nil]) O O O (v:=.agg [.bool false,.nil,.nil]) O bC (nZ (qZ (qZ (rZ (asZ (iZ 0) O (nZ (bZ (lpZ h (λy=>bL [(1,.ptr rg 1 g2 0 0),(3,eL aH r1),(5,.ptr rg 5 g3 0 0),(7,.ptr rg 7 g4 0 0),(8,iZ y.1)]) (λy=>stL S rg [(1,.arr 2 [aK m],g2),(5,.arr 3 [aH r3],g3),(7,.arr 3 [aH y.2],g4)]) (EWk.trans (EWk.ow (k:=7) (o':=.arr 3 [aH (⟨false,[],[]⟩:GRat)]) O (OW.one (VWL.vwc (vZ (vl' (VW.nilL) (vl' (VW.nilL) (vn))))))) (canon (fZ (fZ (fZ (fZ (fZ (fn)))))) (sc O (sc O (sc O (sn)))))) (λy _ h=>?_)))))))))))))))))
    obtain ⟨j,x1⟩:=y
    refine qZ (qZ (rZ (mvZ (iZ j) O (mvZ (eL aH r1) O (wZ rg (aW iD O (wZ rg (bQ O O (nZ (cZ h O (λhb4 h=>?_) (λhb4 h=>?_)))))))))))
    ·refine kZ (qZ (bZ (qZ (rZ (wZ rg (aM (atL (k:=1) O) iM dZ kB O O (v:=aK m) O (mvZ (iZ j) O (wZ rg (clZ O (aAY h λr5 r6 h=>mvZ (.tuple [aH r5,bA 82 r6]) O (wZ rg (aI (v:=aH r5) O O O (wZ rg (aI (v:=bA 82 r6) O O O (wZ rg (bD cS gP (kk:=3) O (λg5=>wZ rg (aL (atL (k:=9) O) bM dZ O (w:=aH r5) O O O (v:=aH r5) O bC (asZ (bA 82 r6) O (nZ (qZ (tkZ h (λhg h=>?_)))))))))))))))))))))))
     obtain ⟨r7,hc,h⟩:=h
     refine Vc.drawn' dH rg (mX [(5,pc (aH r7))]) (by kernel_rfl) (dL (E:=([(rg,7)],[])) O O (by simp) (cfn) (aM (atL (k:=7) O) bM dZ cQ O O (v:=aH x1) O (dP O O (aP (v:=eL aH r1) O (dP O O (aP (v:=iZ j) O (dP O O (bH iD bM dZ (λ_=>O) O O hg (dP O O (eE bM dZ cQ O O (v:=aH (at' r1 j)) O (dC (vs:=[aH x1,aH (at' r1 j)]) O (vZ (vZ (vn))) (λ_=>aA8 hc (λ_ hr=>⟨by rw [hr],rfl⟩)) O (dL (E:=([],[(rg,7)])) O O (by simp) (cfo (by kernel_rfl) (cfn)) (aL (atL (k:=7) O) bM dZ O (w:=aH r7) O O O (v:=aH r7) O bC (dN (qZ (rZ (mvZ (bA 82 r6) O (wZ rg (eS kQ (E:=82) O O O (mvZ (.bool (Option.isSome r6)) O (gfZ h O O (λhb5 h=>?_) (λhb5 h=>?_))))))))))))))))))))))
     ·refine mvZ (eL aH r1) O (gTZ O O hb5 (mvZ (iZ j) O (gTZ O O hb5 (tkZ h (λhg1 h=>wZ rg (bH iD bM dZ (λ_=>O) O O hg1 (gTZ O O hb5 (wZ rg (eE bM dZ cQ O O (v:=aH (at' r1 j)) O (gTZ O O hb5 (wZ rg (clZ O (pO h λr8 h=>gTZ O O hb5 (wZ rg (bQ O O (wZ rg (bI O hb5 (v:=.bool (decide (r8<0))) O (mvZ (.bool (decide (r8<0))) O (gfZ h O O (λhb6 h=>?_) (λhb6 h=>?_))))))))))))))))))))
      ·refine wZ rg (aM (atL (k:=7) O) bM dZ cQ O O (v:=aH r7) O (gTZ O O hb6 (wZ rg (aM (atL (k:=9) O) bM dZ cQ O O (v:=aH r5) O (gTZ O O hb6 (wZ rg (clZ O (rG h λr9 h=>gTZ O O hb6 (wZ rg (jC O O (wZ rg (bI O hb6 (v:=.bool (r9 != 0)) O (nZ (cZ h O (λhb7 h=>?_) (λhb7 h=>?_)))))))))))))))
       ·exact qZ (rZ (asZ (.bool false) O (nZ (uZ (aB (v:=.bool false) O (aE (goZ hrg (hQ _ h))))))))
       exact kZ (rZ (mvZ (iZ j) O (tkZ h (λhg2 h=>wZ rg (aO O O hg2 (asZ (iZ (j+1)) O (nZ (⟨((j+1),r7),(canon (fZ (fZ (fZ (fZ (fZ (fn)))))) (sc O (sc O (sc O (sn))))),h⟩))))))))
      exact gFZ O O hb6 O (gFZ O O hb6 O (gFZ O O hb6 O (wZ rg (bN O hb6 (v:=.bool true) O (nZ (cTZ O O (qZ (rZ (asZ (.bool false) O (nZ (uZ (aB (v:=.bool false) O (aE (goZ hrg (hQ _ h)))))))))))))))
     exact gFZ O O hb5 O (gFZ O O hb5 O (gFZ O O hb5 O (gFZ O O hb5 O (gFZ O O hb5 O (wZ rg (bN O hb5 (v:=.bool true) O (mvZ (.bool true) O (gFZ O O O O (gFZ O O O O (gFZ O O O O (gFZ O O O O (wZ rg (bN O O (v:=.bool true) O (nZ (cTZ O O (qZ (rZ (asZ (.bool false) O (nZ (uZ (aB (v:=.bool false) O (aE (goZ hrg (hQ _ h))))))))))))))))))))))))
    refine xsZ (qZ (rZ (wZ rg (aM (atL (k:=7) O) bM dZ cQ O O (v:=aH x1) O (wZ rg (aM (atL (k:=5) O) bM dZ cQ O O (v:=aH r3) O (wZ rg (clZ O (rG h λr10 h=>wZ rg (cP O O (mvZ (.bool (r10 == 0)) O (gtZ h O O (λhb8 h=>?_) (λhb8 h=>?_)))))))))))))
    ·exact wZ rg (aM (atL (k:=5) O) bM dZ cQ O O (v:=aH r3) O (gTZ O O hb8 (wZ rg (clZ O (aAc h λr11 h=>wZ rg (bN O hb8 (v:=.bool r11) O (asZ (.bool r11) O (nZ (uZ (aB (v:=.bool r11) O (aE (goZ hrg (hQ _ h)))))))))))))
    exact gFZ O O hb8 O (wZ rg (bI O hb8 (v:=.bool false) O (asZ (.bool false) O (nZ (uZ (aB (v:=.bool false) O (aE (goZ hrg (hQ _ h)))))))))
   exact gFZ O O hb2 O (gFZ O O hb2 O (gFZ O O hb2 O (gFZ O O hb2 O (gFZ O O hb2 O (wZ rg (bN O hb2 (v:=.bool true) O (nZ (cTZ O O (qZ (rZ (asZ (.bool false) O (nZ (uZ (aB (v:=.bool false) O (aE (goZ hrg (hQ _ h)))))))))))))))))
  exact gFZ O O hb1 O (wZ rg (bN O hb1 (v:=.bool true) O (mvZ (.bool true) O (gFZ O O O O (gFZ O O O O (gFZ O O O O (gFZ O O O O (gFZ O O O O (gFZ O O O O (wZ rg (bN O O (v:=.bool true) O (nZ (cTZ O O (qZ (rZ (asZ (.bool false) O (nZ (uZ (aB (v:=.bool false) O (aE (goZ hrg (hQ _ h))))))))))))))))))))))
 refine rZ (wZ rg (clZ O (oE h λr12 h=>wZ rg (lZ O (mvZ (.bool (!r12)) O (gfZ h O O (λhb9 h=>?_) (λhb9 h=>?_)))))))
 ·exact wZ rg (aM (atL (k:=1) O) iM dZ kB O O (v:=aK m) O (gTZ O O hb9 (wZ rg (clZ O (zD h λr13 h=>gTZ O O hb9 (wZ rg (lZ O (wZ rg (bI O hb9 (v:=.bool (!r13)) O (nZ (⟨((!r13),g1),(canon (fZ (fZ (fn))) (sc O (sn))),h⟩)))))))))))
 exact gFZ O O hb9 O (gFZ O O hb9 O (wZ rg (bN O hb9 (v:=.bool true) O (nZ (⟨(true,g1),(canon (fZ (fZ (fn))) (sc O (sn))),h⟩)))))
end Go.Proofs.YtnjgdkfhgmebjaaGreat
