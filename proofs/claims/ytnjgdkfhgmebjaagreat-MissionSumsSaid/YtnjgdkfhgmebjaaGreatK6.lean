/- Walks of functions. Conditions: none. -/
import Derived.Test.YtnjgdkfhgmebjaaGreatWa
import Derived.Test.YtnjgdkfhgmebjaaGreatGgTy
import Derived.Test.YtnjgdkfhgmebjaaGreatK4
import Derived.Test.YtnjgdkfhgmebjaaGreatK5
namespace Go.Proofs.YtnjgdkfhgmebjaaGreat
open Go.Gg
set_option maxRecDepth 100000
variable {S:St} {R:AV->St->Prop}
theorem aAY {m:GMission} {j:Int} {Q:GRat->Option Int->Prop} (h:pW m j Q) (hQ:∀r1 r2,Q r1 r2->R (.tuple [aH r1,bA 82 r2]) S) :
  Ctr Tryz.prog 47 [aK m,iZ j] S R:=by
 refine aS Tryz.func47 rfl Tryz.ntmps47 Tryz.results47 (by kernel_rfl) (λrg hrg=>?_)
 refine qZ (rZ (wZ rg (cN (v:=aK m) O O (kk:=2) O dZ (λg1=>wZ rg (bD cS gP (kk:=3) O (λg2=>asZ .niface O (nZ (qZ (rZ (wZ rg (aM (atL (k:=2) O) iM dZ kB O O (v:=aK m) O (mvZ (iZ j) O (wZ rg (clZ O (vO h λr r1 h=>mvZ (.tuple [aK r,bA 82 r1]) O (wZ rg (aI (v:=aK r) O O O (wZ rg (aI (v:=bA 82 r1) O O O (wZ rg (bD aEh aLt (kk:=2) O (λg3=>wZ rg (aL (atL (k:=6) O) iM dZ O (w:=aK r) O O O (v:=aK r) O bC (asZ (bA 82 r1) O (nZ (qZ (qZ (rZ (mvZ (bA 82 r1) O (wZ rg (eS kQ (E:=82) O O O (nZ (cZ h O (λhb h=>?_) (λhb h=>?_))))))))))))))))))))))))))))))))))
 ·exact qZ (rZ (wZ rg (cK zJ cS uR tU bM (ps:=[]) O O (v:=.agg [.bool false,.nil,.nil]) O (mvZ (bA 82 r1) O (wZ rg (aL (atL (k:=4) O) bM dZ O (w:=.agg [.bool false,.nil,.nil]) O O O (v:=.agg [.bool false,.nil,.nil]) O bC (asZ (bA 82 r1) O (nZ (uZ (bO (atL (k:=4) O) bM dZ cQ O O (v:=.agg [.bool false,.nil,.nil]) O (aB (v:=bA 82 r1) O (aE (aY hrg (VW.tupL (vl' (VW.aggL (vZ (vl' (VW.nilL) (vl' (VW.nilL) (vn))))) (vZ (vn)))) (hQ _ _ h))))))))))))))
 exact kZ (qZ (rZ (wZ rg (aM (atL (k:=6) O) iM dZ kB O O (v:=aK r) O (wZ rg (clZ O (mA h λr2 r3 h=>wZ rg (aI (v:=aH r2) O O O (wZ rg (aI (v:=bA 82 r3) O O O (wZ rg (aL (atL (k:=4) O) bM dZ O (w:=aH r2) O O O (v:=aH r2) O bC (asZ (bA 82 r3) O (nZ (uZ (bO (atL (k:=4) O) bM dZ cQ O O (v:=aH r2) O (aB (v:=bA 82 r3) O (aE (aY hrg (VW.tupL (vZ (vZ (vn)))) (hQ _ _ h))))))))))))))))))))
end Go.Proofs.YtnjgdkfhgmebjaaGreat
