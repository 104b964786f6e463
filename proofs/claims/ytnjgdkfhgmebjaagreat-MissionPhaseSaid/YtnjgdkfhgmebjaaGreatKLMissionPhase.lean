/- Walks of functions. Conditions: none. -/
import Derived.Test.YtnjgdkfhgmebjaaGreatWa
import Derived.Test.YtnjgdkfhgmebjaaGreatGgTy
import Derived.Test.YtnjgdkfhgmebjaaGreatK1
import Derived.Test.YtnjgdkfhgmebjaaGreatK4
import Derived.Test.YtnjgdkfhgmebjaaGreatK5
namespace Go.Proofs.YtnjgdkfhgmebjaaGreat
open Go.Gg
set_option maxRecDepth 100000
variable {S:St} {R:AV->St->Prop}
theorem yN {m:GMission} {Q:Bool->Prop} (h:rW m Q) (hQ:∀r1,Q r1->R (AV.bool r1) S) :
  Ctr Tryz.prog 8 [aK m] S R:=by
 refine aS Tryz.func8 rfl Tryz.ntmps8 Tryz.results8 (by kernel_rfl) (λrg hrg=>?_)
 refine qZ (rZ (wZ rg (cN (v:=aK m) O O (kk:=2) O dZ (λg1=>asZ (.bool false) O (nZ (qZ (jgZ (γ:=Nat) h (λy=>bL [(1,.ptr rg 1 y.2 0 0),(17,.bool y.1)]) (λy=>stL S rg [(1,.arr 2 [aK m],y.2)]) (λy h=>?_) (λ_ h=>?_))))))))
 ·obtain ⟨x,g2⟩:=y
  refine cZ h O (λhb h=>?_) (λhb h=>?_)
  ·exact qZ (rZ (wZ rg (clZ O (oE h λr h=>asZ (.bool r) O (nZ (uZ (aB (v:=.bool r) O (aE (goZ hrg (hQ _ h))))))))))
  refine kZ (qZ (rZ (wZ rg (aM (atL (k:=1) O) iM dZ kB O O (v:=aK m) O (wZ rg (clZ O (vO h λr1 r2 h=>mvZ (.tuple [aK r1,bA 82 r2]) O (wZ rg (aI (v:=aK r1) O O O (wZ rg (aI (v:=bA 82 r2) O O O (wZ rg (bD aEh aLt (kk:=2) O (λg3=>wZ rg (aL (atL (k:=3) O) iM dZ O (w:=aK r1) O O O (v:=aK r1) O bC (asZ (bA 82 r2) O (nZ (qZ (qZ (rZ (mvZ (bA 82 r2) O (wZ rg (eS kQ (E:=82) O O O (mvZ (.bool (Option.isSome r2)) O (gfZ h O O (λhb1 h=>?_) (λhb1 h=>?_))))))))))))))))))))))))))
  ·refine wZ rg (aQ fN O (gTZ O O hb1 (wZ rg (aC (atL (k:=3) O) nJ oP O O (v:=eL aF r1.Phases) O (gTZ O O hb1 (wZ rg (aW lI O (gTZ O O hb1 (wZ rg (jC O O (wZ rg (bI O hb1 (v:=.bool ((r1.Phases.length:Int) != 1)) O (nZ (cZ h O (λhb2 h=>?_) (λhb2 h=>?_)))))))))))))))
   ·exact qZ (rZ (asZ (.bool false) O (nZ (uZ (aB (v:=.bool false) O (aE (goZ hrg (hQ _ h))))))))
   refine kZ (qZ (rZ (asZ .nil O (nZ (qZ (qZ (rZ (asZ (iZ 0) O (nZ (bZ (Vc.mat 5 55 3 O dZ (λg4=>lgZ h g4 (λy=>bL [(3,.ptr rg 3 g3 0 0),(5,.sl 3 rg 55 y.2 0 y.1.2.length),(6,iZ y.1.1)]) (λy=>stL S rg [(3,.arr 2 [aK r1],g3),(55,.arr 3 (List.map aH y.1.2),y.2)]) (canon (fZ (fc (VW.slen lzZ) (fZ (fn)))) (sc O (sc O (sn)))) (λy _ h=>?_)))))))))))))
   obtain ⟨⟨i,p⟩,g5⟩:=y
   refine qZ (qZ (rZ (mvZ (iZ i) O (wZ rg (aQ hG O (wZ rg (aC (atL (k:=3) O) qM sU O O (v:=eL (eL aH) r1.P) O (wZ rg (aW pC O (wZ rg (bQ O O (nZ (cZ h O (λhb3 h=>?_) (λhb3 h=>?_))))))))))))))
   ·refine kZ (qZ (bZ (qZ (qZ (rZ (wZ rg (aQ hG O (wZ rg (aC (atL (k:=3) O) qM sU O O (v:=eL (eL aH) r1.P) O (mvZ (iZ i) O (tkZ h (λhg h=>wZ rg (bH pC qE dZ (λ_=>O) O O hg (wZ rg (aZ qE aCC O O (v:=eL aH (at' r1.P i)) O (wZ rg (aW iD O (wZ rg (jC O O (nZ (cZ h O (λhb4 h=>?_) (λhb4 h=>?_))))))))))))))))))))))
    ·exact qZ (rZ (asZ (.bool false) O (nZ (uZ (aB (v:=.bool false) O (aE (goZ hrg (hQ _ h))))))))
    exact kZ (rZ (mvZ (.sl 3 rg 55 g5 0 p.length) O (wZ rg (aQ hG O (wZ rg (aC (atL (k:=3) O) qM sU O O (v:=eL (eL aH) r1.P) O (mvZ (iZ i) O (tkZ h (λhg1 h=>wZ rg (bH pC qE dZ (λ_=>O) O O hg1 (wZ rg (aZ qE aCC O O (v:=eL aH (at' r1.P i)) O (tkZ h (λhg2 h=>wZ rg (bH iD bM dZ (λ_=>O) O O hg2 (wZ rg (eE bM dZ cQ O O (v:=aH (at' (at' r1.P i) 0)) O (wZ rg (cA iD gP cS (es:=[aH (at' (at' r1.P i) 0)]) O (kk:=3) O O O O O O (λg6=>tkZ h (λhg3 h=>wZ rg (eO iD aFb gP cS (es:=p) (xs:=[(at' (at' r1.P i) 0)]) (enc:=aH) (atL (k:=55) O) lzZ (cG (atL (k:=54) O) lzZ) (kk:=3) O O (λ_=>O) (λ_=>O) hg3 O (λ_=>bC) (λg7=>asZ (.sl 3 rg 55 g7 0 ((p++[(at' (at' r1.P i) 0)]).length)) O (nZ (rZ (mvZ (iZ i) O (tkZ h (λhg4 h=>wZ rg (aO O O hg4 (asZ (iZ (i+1)) O (nZ (⟨(((i+1),(p++[(at' (at' r1.P i) 0)])),g7),(canon (fZ (fZ (fZ (fn)))) (sc O (sc O (sn)))),h⟩))))))))))))))))))))))))))))))))
   refine xsZ (qZ (rZ (wZ rg (aM (atL (k:=3) O) iM dZ kB O O (v:=aK r1) O (wZ rg (clZ O (mA h λr3 r4 h=>mvZ (.tuple [aH r3,bA 82 r4]) O (wZ rg (aI (v:=aH r3) O O O (wZ rg (aI (v:=bA 82 r4) O O O (wZ rg (bD cS gP (kk:=3) O (λg8=>wZ rg (aL (atL (k:=7) O) bM dZ O (w:=aH r3) O O O (v:=aH r3) O bC (asZ (bA 82 r4) O (nZ (qZ (rZ (wZ rg (aQ fN O (wZ rg (aC (atL (k:=3) O) nJ oP O O (v:=eL aF r1.Phases) O (tkZ h (λhg5 h=>wZ rg (bH lI eC dZ (λ_=>O) O O hg5 (wZ rg (eE eC dZ jW O O (v:=aF (at' r1.Phases 0)) O (mvZ (.sl 3 rg 55 g5 0 p.length) O (iJ (bW (k:=55) (xs:=List.map aH p) O (es:=[(7,.ptr rg 7 g8 0 0),(8,bA 82 r4),(65,aF (at' r1.Phases 0)),(66,eL aH p)]) (fZ (fc (aQf) (fZ (fc (bP O) (fn))))) (m:=[(7,.arr 3 [aH r3],g8)]) (sc O (sn))) (wZ rg (clZ O (yX h λr5 r6 h=>mvZ (.tuple [aH r5,bA 82 r6]) O (wZ rg (aI (v:=aH r5) O O O (wZ rg (aI (v:=bA 82 r6) O O O (wZ rg (bD cS gP (kk:=3) O (λg9=>wZ rg (aL (atL (k:=9) O) bM dZ O (w:=aH r5) O O O (v:=aH r5) O bC (asZ (bA 82 r6) O (nZ (qZ (rZ (mvZ (bA 82 r4) O (wZ rg (tF kQ (E:=82) O O O (mvZ (.bool (Option.isNone r4)) O (gtZ h O O (λhb5 h=>?_) (λhb5 h=>?_)))))))))))))))))))))))))))))))))))))))))))))))))))
   ·refine mvZ (bA 82 r6) O (gTZ O O hb5 (wZ rg (tF kQ (E:=82) O O O (wZ rg (bN O hb5 (v:=.bool (Option.isNone r6)) O (mvZ (.bool (Option.isNone r6)) O (gtZ h O O (λhb6 h=>?_) (λhb6 h=>?_))))))))
    ·exact wZ rg (aM (atL (k:=7) O) bM dZ cQ O O (v:=aH r3) O (gTZ O O hb6 (wZ rg (aM (atL (k:=9) O) bM dZ cQ O O (v:=aH r5) O (gTZ O O hb6 (wZ rg (clZ O (rG h λr7 h=>gTZ O O hb6 (wZ rg (cP O O (wZ rg (bN O hb6 (v:=.bool (r7 == 0)) O (asZ (.bool (r7 == 0)) O (nZ (uZ (aB (v:=.bool (r7 == 0)) O (aE (goZ hrg (hQ _ h)))))))))))))))))))
    exact gFZ O O hb6 O (gFZ O O hb6 O (gFZ O O hb6 O (wZ rg (bI O hb6 (v:=.bool false) O (asZ (.bool false) O (nZ (uZ (aB (v:=.bool false) O (aE (goZ hrg (hQ _ h)))))))))))
   exact gFZ O O hb5 O (wZ rg (bI O hb5 (v:=.bool false) O (mvZ (.bool false) O (gFZ O O O O (gFZ O O O O (gFZ O O O O (gFZ O O O O (wZ rg (bI O O (v:=.bool false) O (asZ (.bool false) O (nZ (uZ (aB (v:=.bool false) O (aE (goZ hrg (hQ _ h))))))))))))))))
  exact gFZ O O hb1 O (gFZ O O hb1 O (gFZ O O hb1 O (wZ rg (bN O hb1 (v:=.bool true) O (nZ (cTZ O O (qZ (rZ (asZ (.bool false) O (nZ (uZ (aB (v:=.bool false) O (aE (goZ hrg (hQ _ h)))))))))))))))
 refine rZ (wZ rg (clZ O (oE h λr8 h=>wZ rg (lZ O (mvZ (.bool (!r8)) O (gfZ h O O (λhb7 h=>?_) (λhb7 h=>?_)))))))
 ·exact wZ rg (aM (atL (k:=1) O) iM dZ kB O O (v:=aK m) O (gTZ O O hb7 (wZ rg (clZ O (zD h λr9 h=>gTZ O O hb7 (wZ rg (lZ O (wZ rg (bI O hb7 (v:=.bool (!r9)) O (nZ (⟨((!r9),g1),(canon (fZ (fZ (fn))) (sc O (sn))),h⟩)))))))))))
 exact gFZ O O hb7 O (gFZ O O hb7 O (wZ rg (bN O hb7 (v:=.bool true) O (nZ (⟨(true,g1),(canon (fZ (fZ (fn))) (sc O (sn))),h⟩)))))
end Go.Proofs.YtnjgdkfhgmebjaaGreat
