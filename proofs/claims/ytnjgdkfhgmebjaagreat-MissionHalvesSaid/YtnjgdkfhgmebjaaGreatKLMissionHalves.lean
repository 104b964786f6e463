/- Walks of functions. Conditions: none. -/
import Derived.Test.YtnjgdkfhgmebjaaGreatWa
import Derived.Test.YtnjgdkfhgmebjaaGreatGgTy
import Derived.Test.YtnjgdkfhgmebjaaGreatK1
import Derived.Test.YtnjgdkfhgmebjaaGreatK4
import Derived.Test.YtnjgdkfhgmebjaaGreatK5
namespace Go.Proofs.YtnjgdkfhgmebjaaGreat
open Go.Gg
set_option maxRecDepth 100000
variable {S:St} {R:AV->St->Prop}
theorem nu {m:GMission} {j:Int} {share:GRat} {Q:Bool->Prop} (h:jL m j share Q) (hQ:∀r1,Q r1->R (AV.bool r1) S) :
  Ctr Tryz.prog 11 [aB m,iZ j,am share] S R:=by
 refine aI Tryz.func11 rfl Tryz.ntmps11 Tryz.results11 krZ (λrg hrg=>?_)
 refine aj<|wZ rg<|bC (v:=aB m) O O (kk:=2) O dZ (λg1=>wZ rg<|bC (v:=am share) O O (kk:=3) O dZ (λg2=>asZ (.bool false) O<|nZ<|qZ<|jgZ (γ:=Nat×Nat) h (λy=>ba [(1,iZ j),(3,.ptr rg 3 y.2.1 0 0),(5,.ptr rg 5 y.2.2 0 0),(27,.bool y.1)]) (λy=>stL S rg [(3,.arr 2 [aB m],y.2.1),(5,.arr 3 [am share],y.2.2)]) (λy h=>?_) (λ_ h=>?_)))
 ·obtain⟨x,⟨g3,g4⟩⟩:=y
  refine cZ h O (λhb h=>?_) (λhb h=>?_)
  ·exact aj<|ac<|clZ O<|og h λr h=>asZ (.bool r) O<|aE<|gv1 hrg<|hQ _ h
  refine kZ<|aj<|ac<|aw (aZ 3 O) dA dZ gA O O (v:=aB m) O<|mvZ (iZ j) O<|ac<|aw (aZ 5 O) aS dZ bz O O (v:=am share) O<|ac<|clZ O<|rq h λr1 r2 h=>mvZ (.tuple [aB r1,aY 82 r2]) O<|ac<|ar (v:=aB r1) O O O<|ac<|ar (v:=aY 82 r2) O O O<|wZ rg<|aW lN zd (kk:=2) O (λg5=>ac<|ay (aZ 7 O) dA dZ O (w:=aB r1) O O O (v:=aB r1) O aV<|asZ (aY 82 r2) O<|aU<|ac<|aw (aZ 3 O) dA dZ gA O O (v:=aB m) O<|ac<|clZ O<|oa h λcode h=>asZ (iZ code) O<|nZ<|jgZ (γ:=Nat×Nat×Nat) h (λy=>ba [(1,iZ j),(3,.ptr rg 3 y.2.1 0 0),(5,.ptr rg 5 y.2.2.1 0 0),(7,.ptr rg 7 y.2.2.2 0 0),(8,aY 82 r2),(9,iZ y.1)]) (λy=>stL S rg [(3,.arr 2 [aB m],y.2.1),(5,.arr 3 [am share],y.2.2.1),(7,.arr 2 [aB r1],y.2.2.2)]) (λy h=>?_) (λ_ h=>?_))
  ·obtain⟨code1,⟨g6,g7,g8⟩⟩:=y
   refine qZ<|aj<|mvZ (iZ code1) O<|ac<|c8 O O<|nZ<|cZ h O (λhb1 h=>?_) (λhb1 h=>?_)
   ·refine aj<|ac<|aw (aZ 7 O) dA dZ gA O O (v:=aB r1) O<|ac<|bG xC lN vW uj dA (ps:=[]) O O (v:=.agg [.nil,.nil]) O<|wZ rg<|Ag (us:=[aB r1,aB (⟨[],[]⟩:GMission)]) O (vZ<|vl' (VW.aggL<|vl' (VW.nilL)<|vl' (VW.nilL)<|vn)<|vn)<|oX h λr3 h=>mvZ (.bool r3) O<|gtZ h O O (λhb2 h=>?_) (λhb2 h=>?_)
    ·exact mvZ (aY 82 r2) O<|gTZ O O hb2<|ac<|clZ O<|ym h λr4 h=>gTZ O O hb2<|mvZ (iZ code1) O<|gTZ O O hb2<|ac<|bK O O<|ac<|be O hb2 (v:=.bool (r4 == code1)) O<|asZ (.bool<|r4 == code1) O<|aE<|gv1 hrg<|hQ _ h
    exact gFZ O O hb2 O<|gFZ O O hb2 O<|gFZ O O hb2 O<|ac<|bd O hb2 (v:=.bool false) O<|asZ (.bool false) O<|aE<|gv1 hrg<|hQ _ h
   refine kZ<|qZ<|bcZ h (λhb3 h=>?_) (λhb3 h=>?_)
   ·obtain⟨r5,hc,h⟩:=h
    obtain⟨r6,hc1,h⟩:=h
    exact Vc.drawn' bA rg (fH [(7,pc (aB r5)),(8,pc (.bool r6))]) krZ<|dP O O<|aA (v:=aY 82 r2) O<|dP O O<|j4 gk (E:=82) O O O<|dP O O<|aA (v:=.bool (Option.isNone r2)) O<|dGT O O hb3<|dL (E:=([(rg,7)],[])) O O zSm (cfn) (aw (aZ 7 O) dA dZ gA O O (v:=aB r1) O<|dGT O O O<|dL (E:=([(rg,3)],[])) O O zSm (cfa zAp<|cfn) (aw (aZ 3 O) dA dZ gA O O (v:=aB m) O<|dGT O O O<|dP O O<|aA (v:=iZ j) O<|dGT O O O<|dL (E:=([(rg,5)],[])) O O zSm (cfa zAp<|cfa zAp<|cfn) (aw (aZ 5 O) aS dZ bz O O (v:=am share) O<|dGT O O O<|dC (vs:=[aB m,iZ j,am share]) O (vZ<|vZ<|vZ<|vn) (λ_=>tz hc (λ_ hr=>⟨by rw[hr],rfl⟩)) O<|dGT O O O<|dC (vs:=[aB r1,aB r5]) O (vZ<|vZ<|vn) (λ_=>oX hc1 (λ_ hr=>⟨by rw[hr],rfl⟩)) O<|dP O O<|be O O (v:=.bool r6) O<|dP O O<|a9 (v:=.bool r6) O<|dN<|uZ<|gv1 hrg<|hQ _ h)))
   exact Vc.drawn' bA rg (λ_=>fS) krZ<|dP O O<|aA (v:=aY 82 r2) O<|dP O O<|j4 gk (E:=82) O O O<|dP O O<|aA (v:=.bool (Option.isNone r2)) O<|dGF O O hb3 O<|dGF O O O O<|dGF O O O O<|dGF O O O O<|dGF O O O O<|dGF O O O O<|dP O O<|bd O O (v:=.bool false) O<|dP O O<|a9 (v:=.bool false) O<|dN<|uZ<|gv1 hrg<|hQ _ h
  refine aj<|mvZ (iZ code) O<|ac<|bK O O<|nZ<|cZ h O (λhb4 h=>?_) (λhb4 h=>?_)
  ·exact rZ<|ac<|aw (aZ 3 O) dA dZ gA O O (v:=aB m) O<|mvZ (iZ j) O<|ac<|aw (aZ 5 O) aS dZ bz O O (v:=am share) O<|ac<|clZ O<|oG h λcode2 h=>asZ (iZ code2) O<|nZ<|⟨(code2,(g3,g4,g5)),(canon (aP<|fZ<|fZ<|fn)<|sc O<|sc O<|sc O<|sn),h⟩
  exact kZ<|⟨(code,(g3,g4,g5)),(canon (aP<|fZ<|fZ<|fn)<|sc O<|sc O<|sc O<|sn),h⟩
 refine rZ<|ac<|clZ O<|og h λr7 h=>ac<|gK O<|mvZ (.bool<|!r7) O<|gfZ h O O (λhb5 h=>?_) (λhb5 h=>?_)
 ·refine ac<|aw (aZ 3 O) dA dZ gA O O (v:=aB m) O<|gTZ O O hb5<|ac<|clZ O<|tR h λr8 h=>ac<|bd O hb5 (v:=.bool r8) O<|mvZ (.bool r8) O<|gfZ h O O (λhb6 h=>?_) (λhb6 h=>?_)
  ·refine ac<|aF iC O<|gTZ O O hb6<|ac<|af (aZ 5 O) iE jd O O (v:=ak share.J) O<|gTZ O O hb6<|ac<|aJ bi O<|gTZ O O hb6<|ac<|c9 O O<|ac<|bd O hb6 (v:=.bool (decide<|4<(share.J.length:Int))) O (mvZ (.bool<|decide<|4<(share.J.length:Int)) O<|gfZ h O O (λhb7 h=>?_) (λhb7 h=>?_))
   ·exact ac<|aF jz O<|gTZ O O hb7<|ac<|af (aZ 5 O) iE jd O O (v:=ak share.L) O<|gTZ O O hb7<|ac<|aJ bi O<|gTZ O O hb7<|ac<|c9 O O<|ac<|bd O hb7 (v:=.bool (decide<|4<(share.L.length:Int))) O (nZ<|⟨((decide<|4<(share.L.length:Int)),(g1,g2)),(canon (aP<|fn)<|sc O<|sc O<|sn),h⟩)
   exact gFZ O O hb7 O<|gFZ O O hb7 O<|gFZ O O hb7 O<|ac<|be O hb7 (v:=.bool true) O<|nZ<|⟨(true,(g1,g2)),(canon (aP<|fn)<|sc O<|sc O<|sn),h⟩
  exact gFZ O O hb6 O<|gFZ O O hb6 O<|gFZ O O hb6 O<|ac<|be O hb6 (v:=.bool true) O<|mvZ (.bool true) O<|gFZ O O O O<|gFZ O O O O<|gFZ O O O O<|gFZ O O O O<|ac<|be O O (v:=.bool true) O<|nZ<|⟨(true,(g1,g2)),(canon (aP<|fn)<|sc O<|sc O<|sn),h⟩
 exact gFZ O O hb5 O<|ac<|be O hb5 (v:=.bool true) O<|mvZ (.bool true) O<|gFZ O O O O<|gFZ O O O O<|gFZ O O O O<|gFZ O O O O<|ac<|be O O (v:=.bool true) O<|mvZ (.bool true) O<|gFZ O O O O<|gFZ O O O O<|gFZ O O O O<|gFZ O O O O<|ac<|be O O (v:=.bool true) O<|nZ<|⟨(true,(g1,g2)),(canon (aP<|fn)<|sc O<|sc O<|sn),h⟩
end Go.Proofs.YtnjgdkfhgmebjaaGreat
