/- Walks of functions. Conditions: none. -/
import Derived.Test.YtnjgdkfhgmebjaaGreatWa
import Derived.Test.YtnjgdkfhgmebjaaGreatGgTy
import Derived.Test.YtnjgdkfhgmebjaaGreatK1
import Derived.Test.YtnjgdkfhgmebjaaGreatK4
import Derived.Test.YtnjgdkfhgmebjaaGreatK5
namespace Go.Proofs.YtnjgdkfhgmebjaaGreat
open Go.Gg
set_option maxRecDepth 100000
variable {S:St} {R:AV->St->Prop}
theorem n0 {m:GMission} {j:Int} {Q:Bool->Prop} (h:kh m j Q) (hQ:∀r1,Q r1->R (AV.bool r1) S) :
  Ctr Tryz.prog 9 [ar m,iZ j] S R:=by
 refine aH Tryz.func9 rfl Tryz.ntmps9 Tryz.results9 krZ (λrg hrg=>?_)
 refine ah<|wZ rg<|bx (v:=ar m) O O (kk:=2) O dZ (λg1=>asZ (.bool false) O<|nZ<|qZ<|jgZ (γ:=Nat) h (λy=>a8 [(1,iZ j),(2,.ptr rg 2 y.2 0 0),(20,.bool y.1)]) (λy=>stL S rg [(2,.arr 2 [ar m],y.2)]) (λy h=>?_) (λ_ h=>?_))
 ·obtain⟨x,g2⟩:=y
  refine cZ h O (λhb h=>?_) (λhb h=>?_)
  ·exact ah<|ac<|clZ O<|ov h λr h=>asZ (.bool r) O<|aF<|gv1 hrg<|hQ _ h
  refine kZ<|ah<|ac<|aw (aZ 2 O) dp dZ eR O O (v:=ar m) O<|mvZ (iZ j) O<|ac<|clZ O<|my h λr1 r2 h=>mvZ (.tuple [ar r1,a9 82 r2]) O<|ac<|au (v:=ar r1) O O O<|ac<|au (v:=a9 82 r2) O O O<|wZ rg<|aU od y5 (kk:=2) O (λg3=>ac<|ay (aZ 5 O) dp dZ O (w:=ar r1) O O O (v:=ar r1) O aS<|asZ (a9 82 r2) O<|aV<|ac<|aw (aZ 2 O) dp dZ eR O O (v:=ar m) O<|mvZ (iZ j) O<|ac<|clZ O<|pS h λr3 r4 h=>mvZ (.tuple [aq r3,a9 82 r4]) O<|ac<|au (v:=aq r3) O O O<|ac<|au (v:=a9 82 r4) O O O<|wZ rg<|aU bN dz (kk:=3) O (λg4=>ac<|ay (aZ 7 O) a_ dZ O (w:=aq r3) O O O (v:=aq r3) O aS<|asZ (a9 82 r4) O<|aV<|ac<|aw (aZ 2 O) dp dZ eR O O (v:=ar m) O<|ac<|clZ O<|ky h λcode h=>asZ (iZ code) O<|nZ<|jgZ (γ:=Nat×Nat×Nat) h (λy=>a8 [(1,iZ j),(2,.ptr rg 2 y.2.1 0 0),(5,.ptr rg 5 y.2.2.1 0 0),(6,a9 82 r2),(7,.ptr rg 7 y.2.2.2 0 0),(8,a9 82 r4),(9,iZ y.1)]) (λy=>stL S rg [(2,.arr 2 [ar m],y.2.1),(5,.arr 2 [ar r1],y.2.2.1),(7,.arr 3 [aq r3],y.2.2.2)]) (λy h=>?_) (λ_ h=>?_)))
  ·obtain⟨code1,⟨g5,g6,g7⟩⟩:=y
   refine qZ<|ah<|mvZ (iZ code1) O<|ac<|de O O<|nZ<|cZ h O (λhb1 h=>?_) (λhb1 h=>?_)
   ·refine ah<|ac<|aw (aZ 5 O) dp dZ eR O O (v:=ar r1) O<|ac<|bG BT od BJ AP dp (ps:=[]) O O (v:=.agg [.nil,.nil]) O<|wZ rg<|vu (us:=[ar r1,ar (⟨[],[]⟩:GMission)]) O (vZ<|vl' (VW.aggL<|vl' (VW.nilL)<|vl' (VW.nilL)<|vn)<|vn)<|o5 h λr5 h=>mvZ (.bool r5) O<|gtZ h O O (λhb2 h=>?_) (λhb2 h=>?_)
    ·refine ac<|aw (aZ 7 O) a_ dZ bK O O (v:=aq r3) O<|gTZ O O hb2<|ac<|bG nf bN kr j7 a_ (ps:=[]) O O (v:=.agg [.bool false,.nil,.nil]) O<|gTZ O O hb2<|wZ rg<|vu (us:=[aq r3,aq (⟨false,[],[]⟩:GRat)]) O (vZ<|vl' (VW.aggL<|vZ<|vl' (VW.nilL)<|vl' (VW.nilL)<|vn)<|vn)<|il h λr6 h=>ac<|bf O hb2 (v:=.bool r6) O<|mvZ (.bool r6) O<|gtZ h O O (λhb3 h=>?_) (λhb3 h=>?_)
     ·refine mvZ (a9 82 r2) O<|gTZ O O hb3<|ac<|clZ O<|oc h λr7 h=>gTZ O O hb3<|mvZ (iZ code1) O<|gTZ O O hb3<|ac<|bE O O<|ac<|bf O hb3 (v:=.bool (r7 == code1)) O<|mvZ (.bool<|r7 == code1) O<|gtZ h O O (λhb4 h=>?_) (λhb4 h=>?_)
      ·exact mvZ (a9 82 r4) O<|gTZ O O hb4<|ac<|clZ O<|oc h λr8 h=>gTZ O O hb4<|mvZ (iZ code1) O<|gTZ O O hb4<|ac<|bE O O<|ac<|bf O hb4 (v:=.bool (r8 == code1)) O<|asZ (.bool<|r8 == code1) O<|aF<|gv1 hrg<|hQ _ h
      exact gFZ O O hb4 O<|gFZ O O hb4 O<|gFZ O O hb4 O<|ac<|ba O hb4 (v:=.bool false) O<|asZ (.bool false) O<|aF<|gv1 hrg<|hQ _ h
     exact gFZ O O hb3 O<|gFZ O O hb3 O<|gFZ O O hb3 O<|ac<|ba O hb3 (v:=.bool false) O<|mvZ (.bool false) O<|gFZ O O O O<|gFZ O O O O<|gFZ O O O O<|gFZ O O O O<|ac<|ba O O (v:=.bool false) O<|asZ (.bool false) O<|aF<|gv1 hrg<|hQ _ h
    exact gFZ O O hb2 O<|gFZ O O hb2 O<|ac<|ba O hb2 (v:=.bool false) O<|mvZ (.bool false) O<|gFZ O O O O<|gFZ O O O O<|gFZ O O O O<|gFZ O O O O<|ac<|ba O O (v:=.bool false) O<|mvZ (.bool false) O<|gFZ O O O O<|gFZ O O O O<|gFZ O O O O<|gFZ O O O O<|ac<|ba O O (v:=.bool false) O<|asZ (.bool false) O<|aF<|gv1 hrg<|hQ _ h
   refine kZ<|ah<|ac<|aw (aZ 2 O) dp dZ eR O O (v:=ar m) O<|mvZ (iZ j) O<|ac<|clZ O<|tQ h λr9 h=>wZ rg<|aU od y5 (kk:=2) O (λg8=>ac<|ay (aZ 10 O) dp dZ O (w:=ar r9) O O O (v:=ar r9) O aS<|nZ<|qZ<|ah<|mvZ (a9 82 r2) O<|ac<|cU gu (E:=82) O O O<|mvZ (.bool<|Option.isSome r2) O<|gfZ h O O (λhb5 h=>?_) (λhb5 h=>?_))
   ·refine ac<|aw (aZ 5 O) dp dZ eR O O (v:=ar r1) O<|gTZ O O hb5<|ac<|aw (aZ 10 O) dp dZ eR O O (v:=ar r9) O<|gTZ O O hb5<|ac<|clZ O<|o5 h λr10 h=>gTZ O O hb5<|ac<|gS O<|ac<|ba O hb5 (v:=.bool (!r10)) O<|nZ<|cZ h O (λhb6 h=>?_) (λhb6 h=>?_)
    ·exact ah<|asZ (.bool false) O<|aF<|gv1 hrg<|hQ _ h
    refine kZ<|qZ<|ah<|ac<|aw (aZ 10 O) dp dZ eR O O (v:=ar r9) O<|ac<|clZ O<|rG h λcode2 h=>asZ (iZ code2) O<|aV<|mvZ (iZ code2) O<|ac<|de O O<|nZ<|cZ h O (λhb7 h=>?_) (λhb7 h=>?_)
    ·refine ah<|ac<|aw (aZ 7 O) a_ dZ bK O O (v:=aq r3) O<|ac<|bG nf bN kr j7 a_ (ps:=[]) O O (v:=.agg [.bool false,.nil,.nil]) O<|wZ rg<|vu (us:=[aq r3,aq (⟨false,[],[]⟩:GRat)]) O (vZ<|vl' (VW.aggL<|vZ<|vl' (VW.nilL)<|vl' (VW.nilL)<|vn)<|vn)<|il h λr11 h=>mvZ (.bool r11) O<|gtZ h O O (λhb8 h=>?_) (λhb8 h=>?_)
     ·exact mvZ (a9 82 r4) O<|gTZ O O hb8<|ac<|clZ O<|oc h λr12 h=>gTZ O O hb8<|mvZ (iZ code2) O<|gTZ O O hb8<|ac<|bE O O<|ac<|bf O hb8 (v:=.bool (r12 == code2)) O<|asZ (.bool<|r12 == code2) O<|aF<|gv1 hrg<|hQ _ h
     exact gFZ O O hb8 O<|gFZ O O hb8 O<|gFZ O O hb8 O<|ac<|ba O hb8 (v:=.bool false) O<|asZ (.bool false) O<|aF<|gv1 hrg<|hQ _ h
    refine kZ<|qZ<|bcZ h (λhb9 h=>?_) (λhb9 h=>?_)
    ·obtain⟨r13,hc,h⟩:=h
     obtain⟨r14,hc1,h⟩:=h
     exact Vc.drawn' bC rg (fh [(5,pc (aq r13)),(6,pc (.bool r14))]) krZ<|dP O O<|aA (v:=a9 82 r4) O<|dP O O<|jV gu (E:=82) O O O<|dP O O<|aA (v:=.bool (Option.isNone r4)) O<|dGT O O hb9<|dL (E:=([(rg,7)],[])) O O (by simp) (cfn) (aw (aZ 7 O) a_ dZ bK O O (v:=aq r3) O<|dGT O O O<|dL (E:=([(rg,10)],[])) O O (by simp) (cfa (by simp[aJ])<|cfn) (aw (aZ 10 O) dp dZ eR O O (v:=ar r9) O<|dGT O O O<|dC (vs:=[ar r9]) O (vZ<|vn) (λ_=>tR hc (λ_ hr=>⟨by rw[hr],rfl⟩)) O<|dGT O O O<|dC (vs:=[aq r3,aq r13]) O (vZ<|vZ<|vn) (λ_=>il hc1 (λ_ hr=>⟨by rw[hr],rfl⟩)) O<|dP O O<|bf O O (v:=.bool r14) O<|dP O O<|aW (v:=.bool r14) O<|dN<|uZ<|gv1 hrg<|hQ _ h))
    exact Vc.drawn' bC rg (λ_=>fz) krZ<|dP O O<|aA (v:=a9 82 r4) O<|dP O O<|jV gu (E:=82) O O O<|dP O O<|aA (v:=.bool (Option.isNone r4)) O<|dGF O O hb9 O<|dGF O O O O<|dGF O O O O<|dGF O O O O<|dP O O<|ba O O (v:=.bool false) O<|dP O O<|aW (v:=.bool false) O<|dN<|uZ<|gv1 hrg<|hQ _ h
   exact gFZ O O hb5 O<|gFZ O O hb5 O<|gFZ O O hb5 O<|ac<|bf O hb5 (v:=.bool true) O<|nZ<|cTZ O O<|ah<|asZ (.bool false) O<|aF<|gv1 hrg<|hQ _ h
  refine ah<|mvZ (iZ code) O<|ac<|bE O O<|mvZ (.bool<|code == 0) O<|gtZ h O O (λhb10 h=>?_) (λhb10 h=>?_)
  ·refine mvZ (iZ j) O<|gTZ O O hb10<|ac<|bg O O<|gTZ O O hb10<|mvZ (.bool<|decide<|j<0) O<|gfZ h O O (λhb11 h=>?_) (λhb11 h=>?_)
   ·refine mvZ (iZ j) O<|gTZ O O hb11<|ac<|aD ck O<|gTZ O O hb11<|ac<|ae (aZ 2 O) fi fA O O (v:=eL ak m.Phases) O<|gTZ O O hb11<|ac<|aI ez O<|gTZ O O hb11<|ac<|fk O O<|gTZ O O hb10<|ac<|ba O hb11 (v:=.bool (decide<|(m.Phases.length:Int)<=j)) O (ac<|bf O hb10 (v:=.bool (decide<|(m.Phases.length:Int)<=j)) O (nZ<|cZ h O (λhb12 h=>?_) (λhb12 h=>?_)))
    ·exact rZ<|asZ (iZ 10) O<|nZ<|⟨(10,(g2,g3,g4)),(canon (aN<|fZ<|fZ<|fZ<|fn)<|sc O<|sc O<|sc O<|sn),h⟩
    exact kZ<|⟨(code,(g2,g3,g4)),(canon (aN<|fZ<|fZ<|fZ<|fn)<|sc O<|sc O<|sc O<|sn),h⟩
   exact gFZ O O hb11 O<|gFZ O O hb11 O<|gFZ O O hb11 O<|gFZ O O hb11 O<|gTZ O O hb10<|ac<|bf O hb11 (v:=.bool true) O<|ac<|bf O hb10 (v:=.bool true) O<|nZ<|cTZ O O<|rZ<|asZ (iZ 10) O<|nZ<|⟨(10,(g2,g3,g4)),(canon (aN<|fZ<|fZ<|fZ<|fn)<|sc O<|sc O<|sc O<|sn),h⟩
  exact gFZ O O hb10 O<|gFZ O O hb10 O<|gUZ O O<|gUZ O O<|gUZ O O<|gUZ O O<|gUZ O O<|gFZ O O hb10 O<|ac<|ba O hb10 (v:=.bool false) O<|nZ<|cFZ O O<|kZ<|⟨(code,(g2,g3,g4)),(canon (aN<|fZ<|fZ<|fZ<|fn)<|sc O<|sc O<|sc O<|sn),h⟩
 refine rZ<|ac<|clZ O<|ov h λr15 h=>ac<|gS O<|mvZ (.bool<|!r15) O<|gfZ h O O (λhb13 h=>?_) (λhb13 h=>?_)
 ·refine ac<|aw (aZ 2 O) dp dZ eR O O (v:=ar m) O<|gTZ O O hb13<|ac<|clZ O<|ub h λr16 h=>ac<|ba O hb13 (v:=.bool r16) O<|mvZ (.bool r16) O<|gfZ h O O (λhb14 h=>?_) (λhb14 h=>?_)
  ·exact ac<|aw (aZ 2 O) dp dZ eR O O (v:=ar m) O<|gTZ O O hb14<|ac<|clZ O<|vF h λr17 h=>ac<|ba O hb14 (v:=.bool r17) O<|nZ<|⟨(r17,g1),(canon (fZ<|fZ<|fZ<|fn)<|sc O<|sn),h⟩
  exact gFZ O O hb14 O<|ac<|bf O hb14 (v:=.bool true) O<|nZ<|⟨(true,g1),(canon (fZ<|fZ<|fZ<|fn)<|sc O<|sn),h⟩
 exact gFZ O O hb13 O<|ac<|bf O hb13 (v:=.bool true) O<|mvZ (.bool true) O<|gFZ O O O O<|gFZ O O O O<|ac<|bf O O (v:=.bool true) O<|nZ<|⟨(true,g1),(canon (fZ<|fZ<|fZ<|fn)<|sc O<|sn),h⟩
end Go.Proofs.YtnjgdkfhgmebjaaGreat
