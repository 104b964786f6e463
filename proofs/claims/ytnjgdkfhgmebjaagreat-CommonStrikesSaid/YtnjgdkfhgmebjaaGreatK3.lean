/- Walks of functions. Conditions: none. -/
import Derived.Test.YtnjgdkfhgmebjaaGreatWa
import Derived.Test.YtnjgdkfhgmebjaaGreatGgTy
import Derived.Test.YtnjgdkfhgmebjaaGreatGd
import Derived.Test.YtnjgdkfhgmebjaaGreatK2
import Derived.Test.YtnjgdkfhgmebjaaGreatK1
namespace Go.Proofs.YtnjgdkfhgmebjaaGreat
open Go.Gg
set_option maxRecDepth 100000
variable {S:St} {R:AV->St->Prop}
theorem h_ {l:List GRat} {Q:Bool->Prop} (h:fh l Q) (hQ:∀r1,Q r1->R (AV.bool r1) S) :
  Ctr Tryz.prog 81 [eL ac l] S R:=by
 refine aL Tryz.func81 rfl Tryz.ntmps81 Tryz.results81 krZ (λrg hrg=>?_)
 refine af<|asZ (.bool false) O<|nZ<|qZ<|af<|mvZ (eL ac l) O<|aa<|aG cm O<|mvZ (iZ 0) O<|nZ<|bZ<|lpZ h (λy=>aQ [(5,eL ac l),(6,iZ (l.length:Int)),(7,iZ y)]) (λy=>stL S rg []) (ap (fZ<|fZ<|fZ<|fn)<|sn) (λx _ h=>af<|aa<|a9 O O<|nZ<|qZ<|cZ h O (λhb h=>?_) (λhb h=>?_))
 ·refine kZ<|qZ<|bZ<|af<|tkZ h (λhg h=>aa<|aV cm ay dZ (λ_=>O) O O hg<|aa<|bm ay dZ aW O O (v:=ac (at' l x)) O<|wZ rg<|aX bh co (kk:=3) O (λg1=>aa<|au (aZ 4 O) ay dZ O (w:=ac (at' l x)) O O O (v:=ac (at' l x)) O aY<|aU<|aa<|am (aZ 4 O) ay dZ aW O O (v:=ac (at' l x)) O<|aa<|clZ O<|fV h λr h=>aa<|c9 O<|nZ<|cZ h O (λhb1 h=>?_) (λhb1 h=>?_)))
  ·exact af<|asZ (.bool false) O<|aD<|gv1 hrg<|hQ _ h
  exact kZ<|rZ<|tkZ h (λhg1 h=>aa<|aF O O hg1<|mvZ (iZ<|x+1) O<|nZ<|⟨(x+1),(ap (fZ<|fZ<|fZ<|fn)<|sn),h⟩)
 exact xsZ<|af<|asZ (.bool true) O<|aD<|gv1 hrg<|hQ _ h
theorem me {f:GFormula} {p:List GRat} {g1:GCauseGroup} {before:List Int} {q0 k0 g0:Nat} (hdk:DK [(q0,k0)]) {Q:Int->Prop} (h:gx f p g1 before Q) (hQ:∀r1,Q r1->R (iZ r1) (stX S [(q0,k0,.arr 1 (List.map iZ before),g0)])) :
  Ctr Tryz.prog 82 [aA f,eL ac p,ak g1,.sl 1 q0 k0 g0 0 before.length] (stX S [(q0,k0,.arr 1 (List.map iZ before),g0)]) R:=by
 refine aL Tryz.func82 rfl Tryz.ntmps82 Tryz.results82 krZ (λrg hrg=>?_)
 have hdx:DX [(q0,k0,.arr 1 (List.map iZ before),g0)]:=hdk
 have hfr:=λX' e=>gC (S:=S) (rg:=rg) (X:=[(q0,k0,.arr 1 (List.map iZ before),g0)]) (X':=X') e hrg
 have hne0:=jT hdx hrg 0 rfl
 refine af<|wZ rg<|bp (v:=aA f) O O (kk:=3) O dZ (λg2=>wZ rg<|bp (v:=ak g1) O O (kk:=3) O dZ (λg3=>asZ (iZ 0) O<|aU<|asZ (iZ 24) O<|asZ (iZ 1) O<|nZ<|jgZ (γ:=Nat×Nat) h (λy=>aQ [(1,eL ac p),(3,.sl 1 q0 k0 g0 0 before.length),(4,.ptr rg 4 y.2.1 0 0),(6,.ptr rg 6 y.2.2 0 0),(9,iZ y.1.1),(10,iZ y.1.2)]) (λy=>stL (stX S [(q0,k0,.arr 1 (List.map iZ before),g0)]) rg [(4,.arr 3 [aA f],y.2.1),(6,.arr 3 [ak g1],y.2.2)]) (λy h=>?_) (λ_ h=>?_)))
 ·obtain⟨⟨most,factors⟩,⟨g4,g5⟩⟩:=y
  refine jgZ (γ:=Nat×Nat) h (λy=>aQ [(1,eL ac p),(3,.sl 1 q0 k0 g0 0 before.length),(4,.ptr rg 4 y.2.1 0 0),(6,.ptr rg 6 y.2.2 0 0),(9,iZ most),(10,iZ factors)]) (λy=>stL (stX S [(q0,k0,.arr 1 (List.map iZ before),g0)]) rg [(4,.arr 3 [aA f],y.2.1),(6,.arr 3 [ak g1],y.2.2)]) (λy h=>?_) (λ_ h=>?_)
  ·obtain⟨_,⟨g6,g7⟩⟩:=y
   refine qZ<|af<|aa<|aP cE O<|aa<|ag (aZ 6 O) dJ eG O O (v:=bH g1.Members) O<|aa<|aG bA O<|aa<|a9 O O<|mvZ (.bool<|decide<|(g1.Members.length:Int)<2) O<|gfZ h O O (λhb h=>?_) (λhb h=>?_)
   ·refine aa<|aP cE O<|gTZ O O hb<|aa<|ag (aZ 6 O) dJ eG O O (v:=bH g1.Members) O<|gTZ O O hb<|aa<|aG bA O<|gTZ O O hb<|mvZ (iZ most) O<|gTZ O O hb<|aa<|dp O O<|aa<|aJ O hb (v:=.bool (decide<|most<(g1.Members.length:Int))) O (mvZ (.bool<|decide<|most<(g1.Members.length:Int)) O<|gfZ h O O (λhb1 h=>?_) (λhb1 h=>?_))
    ·refine aa<|aP iI O<|gTZ O O hb1<|aa<|ag (aZ 6 O) l_ n3 O O (v:=eL ac g1.Factors) O<|gTZ O O hb1<|aa<|aG cm O<|gTZ O O hb1<|mvZ (iZ factors) O<|gTZ O O hb1<|aa<|dn O O<|aa<|aJ O hb1 (v:=.bool ((g1.Factors.length:Int) != factors)) O (nZ<|cZ h O (λhb2 h=>?_) (λhb2 h=>?_))
     ·exact af<|asZ (iZ 11) O<|aD<|gv1 (hfr _ O)<|hQ _ h
     refine kZ<|af<|wZ rg<|ba bA ok3 hH (es:=[]) O (kk:=1) O O O O O O (λg8=>mvZ (.sl 1 q0 k0 g0 0 before.length) O<|tkZ h (λhg h=>wZ rg<|ck bA nV ok3 hH (es:=([]:List Int)) (xs:=before) (enc:=iZ) (aZ 51 O) lzZ (bv (atX hne0 hdx 0 O) lzZ) (kk:=1) O O (λ_=>O) (λ_=>O) hg O (λ_=>aY) (λg9=>asZ (.sl 1 rg 51 g9 0<|(([]:List Int)++before).length) O<|nZ<|qZ<|af<|aa<|aP cE O<|aa<|ag (aZ 6 O) dJ eG O O (v:=bH g1.Members) O<|aa<|aG bA O<|mvZ (iZ 0) O<|nZ<|bZ<|lgZ h g9 (λy=>aQ [(1,eL ac p),(4,.ptr rg 4 g6 0 0),(6,.ptr rg 6 g7 0 0),(11,.sl 1 rg 51 y.2 0 y.1.2.length),(55,bH g1.Members),(56,iZ (g1.Members.length:Int)),(57,iZ y.1.1)]) (λy=>stL (stX S [(q0,k0,.arr 1 (List.map iZ before),g0)]) rg [(4,.arr 3 [aA f],g6),(6,.arr 3 [ak g1],g7),(51,.arr 1 (List.map iZ y.1.2),y.2)]) (ap (aE<|fZ<|fZ<|fZ<|fn)<|sc O<|sc O<|sc O<|sn) (λy _ h=>?_))))
     obtain⟨⟨x,seen⟩,g10⟩:=y
     refine af<|aa<|a9 O O<|nZ<|qZ<|cZ h O (λhb3 h=>?_) (λhb3 h=>?_)
     ·refine kZ<|qZ<|bZ<|af<|tkZ h (λhg1 h=>aa<|aV bA sz3 dZ (λ_=>O) O O hg1<|aa<|a8 sz3 ag3 O O (v:=iZ (at' g1.Members x)) O<|asZ (iZ<|at' g1.Members x) O<|nZ<|qZ<|af<|mvZ (iZ<|at' g1.Members x) O<|aa<|a9 O O<|mvZ (.bool<|decide<|(at' g1.Members x)<0) O<|gfZ h O O (λhb4 h=>?_) (λhb4 h=>?_))
      ·refine mvZ (iZ<|at' g1.Members x) O<|gTZ O O hb4<|aa<|aP cH O<|gTZ O O hb4<|aa<|ag (aZ 4 O) sz3 ag3 O O (v:=iZ f.Vars) O<|gTZ O O hb4<|aa<|dI O O<|aa<|aJ O hb4 (v:=.bool (decide<|f.Vars<=(at' g1.Members x))) O (nZ<|cZ h O (λhb5 h=>?_) (λhb5 h=>?_))
       ·exact af<|asZ (iZ 10) O<|aD<|gv1 (hfr _ O)<|hQ _ h
       refine kZ<|qZ<|af<|mvZ (.sl 1 rg 51 g10 0 seen.length) O<|aa<|dO bA O<|mvZ (iZ 0) O<|nZ<|bZ<|lpZ h (λy=>aQ [(1,eL ac p),(4,.ptr rg 4 g6 0 0),(6,.ptr rg 6 g7 0 0),(11,.sl 1 rg 51 g10 0 seen.length),(13,iZ (at' g1.Members x)),(55,bH g1.Members),(56,iZ (g1.Members.length:Int)),(57,iZ x),(69,.sl 1 rg 51 g10 0 seen.length),(70,iZ (seen.length:Int)),(71,iZ y)]) (λy=>stL (stX S [(q0,k0,.arr 1 (List.map iZ before),g0)]) rg [(4,.arr 3 [aA f],g6),(6,.arr 3 [ak g1],g7),(51,.arr 1 (List.map iZ seen),g10)]) (ap (aE<|aE<|fZ<|fZ<|fZ<|fn)<|sc O<|sc O<|sc O<|sn) (λx1 _ h=>af<|aa<|a9 O O<|nZ<|qZ<|cZ h O (λhb6 h=>?_) (λhb6 h=>?_))
       ·refine kZ<|qZ<|bZ<|af<|tkZ h (λhi h=>aa<|bL bA sz3 dZ O O hi<|aa<|c_ (aZ 51 O) sz3 ag3 O (dh hi lzZ) O (v:=iZ (at' seen x1)) O<|asZ (iZ<|at' seen x1) O<|aU<|mvZ (iZ<|at' seen x1) O<|mvZ (iZ<|at' g1.Members x) O<|aa<|br O O<|nZ<|cZ h O (λhb7 h=>?_) (λhb7 h=>?_))
        ·exact af<|asZ (iZ 6) O<|aD<|gv1 (hfr _ O)<|hQ _ h
        exact kZ<|rZ<|tkZ h (λhg2 h=>aa<|aF O O hg2<|mvZ (iZ<|x1+1) O<|nZ<|⟨(x1+1),(ap (aE<|aE<|fZ<|fZ<|fZ<|fn)<|sc O<|sc O<|sc O<|sn),h⟩)
       exact xsZ<|rZ<|mvZ (.sl 1 rg 51 g10 0 seen.length) O<|mvZ (iZ<|at' g1.Members x) O<|wZ rg<|ba bA ok3 hH (es:=[iZ (at' g1.Members x)]) O (kk:=1) O O O O O O (λg11=>tkZ h (λhg3 h=>wZ rg<|ck bA nV ok3 hH (es:=seen) (xs:=[(at' g1.Members x)]) (enc:=iZ) (aZ 51 O) lzZ (bv (aZ 81 O) lzZ) (kk:=1) O O (λ_=>O) (λ_=>O) hg3 O (λ_=>aY) (λg12=>asZ (.sl 1 rg 51 g12 0<|(seen++[(at' g1.Members x)]).length) O<|nZ<|rZ<|tkZ h (λhg4 h=>aa<|aF O O hg4<|mvZ (iZ<|x+1) O<|nZ<|⟨(((x+1),(seen++[(at' g1.Members x)])),g12),(ap (aE<|fZ<|fZ<|fZ<|fn)<|sc O<|sc O<|sc O<|sn),h⟩))))
      exact gFZ O O hb4 O<|gFZ O O hb4 O<|gFZ O O hb4 O<|aa<|aI O hb4 (v:=.bool true) O<|nZ<|cTZ O O<|af<|asZ (iZ 10) O<|aD<|gv1 (hfr _ O)<|hQ _ h
     refine xsZ<|qZ<|af<|aa<|aP iI O<|aa<|ag (aZ 6 O) l_ n3 O O (v:=eL ac g1.Factors) O<|aa<|clZ O<|h_ h λr h=>aa<|c9 O<|nZ<|cZ h O (λhb8 h=>?_) (λhb8 h=>?_)
     ·exact af<|asZ (iZ 3) O<|aD<|gv1 (hfr _ O)<|hQ _ h
     refine kZ<|qZ<|af<|aa<|aP cE O<|aa<|ag (aZ 6 O) dJ eG O O (v:=bH g1.Members) O<|aa<|aG bA O<|mvZ (iZ 0) O<|nZ<|bZ<|lpZ h (λy=>aQ [(1,eL ac p),(6,.ptr rg 6 g7 0 0),(89,bH g1.Members),(90,iZ (g1.Members.length:Int)),(91,iZ y)]) (λy=>stL (stX S [(q0,k0,.arr 1 (List.map iZ before),g0)]) rg [(6,.arr 3 [ak g1],g7)]) (ap (aE<|fZ<|fn)<|sc O<|sn) (λx2 _ h=>af<|aa<|a9 O O<|nZ<|qZ<|cZ h O (λhb9 h=>?_) (λhb9 h=>?_))
     ·refine kZ<|qZ<|bZ<|af<|tkZ h (λhg5 h=>aa<|aV bA sz3 dZ (λ_=>O) O O hg5<|aa<|a8 sz3 ag3 O O (v:=iZ (at' g1.Members x2)) O<|asZ (iZ<|at' g1.Members x2) O<|nZ<|qZ<|tkZ h (λhg6 h=>tkZ h (λhg7 h=>tkZ h (λhg8 h=>?_))))
      obtain⟨r1,hc,h⟩:=h
      refine Vc.drawn' bz rg (eZ [(11,pc (iZ r1))]) krZ<|dP O O<|az (v:=eL ac p) O<|dP O O<|az (v:=iZ (at' g1.Members x2)) O<|dP O O<|aV cm ay dZ (λ_=>O) O O hg6<|dP O O<|bm ay dZ aW O O (v:=ac (at' p<|at' g1.Members x2)) O (dP O O<|az (v:=eL ac p) O<|dP O O<|aP cE O<|dL (E:=([(rg,6)],[])) O O (by simp) (cfn) (ag (aZ 6 O) dJ eG O O (v:=bH g1.Members) O<|dP O O<|aV bA sz3 dZ (λ_=>O) O O hg7<|dP O O<|a8 sz3 ag3 O O (v:=iZ (at' g1.Members 0)) O<|dP O O<|aV cm ay dZ (λ_=>O) O O hg8<|dP O O<|bm ay dZ aW O O (v:=ac (at' p<|at' g1.Members 0)) O (dC (vs:=[ac (at' p<|at' g1.Members x2),ac (at' p<|at' g1.Members 0)]) O (vZ<|vZ<|vn) (λ_=>lN hc (λ_ hr=>⟨by rw[hr],rfl⟩)) O<|dP O O<|dn O O<|dN<|cZ h O (λhb10 h=>?_) (λhb10 h=>?_))))
      ·exact af<|asZ (iZ 3) O<|aD<|gv1 (hfr _ O)<|hQ _ h
      exact kZ<|rZ<|tkZ h (λhg9 h=>aa<|aF O O hg9<|mvZ (iZ<|x2+1) O<|nZ<|⟨(x2+1),(ap (aE<|fZ<|fn)<|sc O<|sn),h⟩)
     exact xsZ<|af<|asZ (iZ 0) O<|aD<|gv1 (hfr _ O)<|hQ _ h
    exact gFZ O O hb1 O<|gFZ O O hb1 O<|gFZ O O hb1 O<|gFZ O O hb1 O<|aa<|aI O hb1 (v:=.bool true) O<|nZ<|cTZ O O<|af<|asZ (iZ 11) O<|aD<|gv1 (hfr _ O)<|hQ _ h
   exact gFZ O O hb O<|gFZ O O hb O<|gFZ O O hb O<|gFZ O O hb O<|aa<|aI O hb (v:=.bool true) O<|mvZ (.bool true) O<|gFZ O O O O<|gFZ O O O O<|gFZ O O O O<|gFZ O O O O<|gFZ O O O O<|aa<|aI O O (v:=.bool true) O<|nZ<|cTZ O O<|af<|asZ (iZ 11) O<|aD<|gv1 (hfr _ O)<|hQ _ h
  refine af<|aa<|aP jn O<|aa<|ag (aZ 6 O) sz3 ag3 O O (v:=iZ g1.Kind) O<|aa<|dn O O<|mvZ (.bool<|g1.Kind != 0) O<|gtZ h O O (λhb11 h=>?_) (λhb11 h=>?_)
  ·refine aa<|aP jn O<|gTZ O O hb11<|aa<|ag (aZ 6 O) sz3 ag3 O O (v:=iZ g1.Kind) O<|gTZ O O hb11<|aa<|dn O O<|aa<|aI O hb11 (v:=.bool (g1.Kind != 1)) O<|nZ<|cZ h O (λhb12 h=>?_) (λhb12 h=>?_)
   ·exact af<|asZ (iZ 7) O<|aD<|gv1 (hfr _ O)<|hQ _ h
   exact kZ<|⟨((),(g4,g5)),(ap (aE<|fZ<|fZ<|fn)<|sc O<|sc O<|sn),h⟩
  exact gFZ O O hb11 O<|gFZ O O hb11 O<|aa<|aJ O hb11 (v:=.bool false) O<|nZ<|cFZ O O<|kZ<|⟨((),(g4,g5)),(ap (aE<|fZ<|fZ<|fn)<|sc O<|sc O<|sn),h⟩
 refine af<|aa<|aP jn O<|aa<|ag (aZ 6 O) sz3 ag3 O O (v:=iZ g1.Kind) O<|aa<|br O O<|nZ<|cZ h O (λhb13 h=>?_) (λhb13 h=>?_)
 ·exact tkZ h (λhg10 h=>Vc.drawn' bz rg (λ_=>gb) krZ<|dP O O<|aP cE O<|dL (E:=([(rg,6)],[])) O O (by simp) (cfn) (ag (aZ 6 O) dJ eG O O (v:=bH g1.Members) O<|dP O O<|aG bA O<|dP O O<|bo O O hg10<|dP O O<|aB (v:=iZ 4) O<|dP O O<|aB (v:=iZ ((g1.Members.length:Int)-1)) O (dN<|⟨((4,((g1.Members.length:Int)-1)),(g2,g3)),(ap (aE<|fZ<|fZ<|fn)<|sc O<|sc O<|sn),h⟩)))
 exact kZ<|⟨((24,1),(g2,g3)),(ap (aE<|fZ<|fZ<|fn)<|sc O<|sc O<|sn),h⟩
theorem oA {f:GFormula} {p:List GRat} {groups:List GCauseGroup} {Q:Int->Prop} (h:jx f p groups Q) (hQ:∀r1,Q r1->R (iZ r1) S) :
  Ctr Tryz.prog 24 [aA f,eL ac p,eL ak groups] S R:=by
 refine aL Tryz.func24 rfl Tryz.ntmps24 Tryz.results24 krZ (λrg hrg=>?_)
 refine af<|wZ rg<|bp (v:=aA f) O O (kk:=3) O dZ (λg1=>asZ (iZ 0) O<|nZ<|qZ<|af<|aa<|am (aZ 3 O) e7 dZ jc O O (v:=aA f) O<|aa<|clZ O<|oC h λe h=>asZ (iZ e) O<|aU<|mvZ (iZ e) O<|aa<|dn O O<|nZ<|cZ h O (λhb h=>?_) (λhb h=>?_))
 ·exact af<|mvZ (iZ e) O<|asZ (iZ e) O<|aD<|gv1 hrg<|hQ _ h
 refine kZ<|qZ<|af<|mvZ (eL ac p) O<|aa<|aG cm O<|aa<|aP cH O<|aa<|ag (aZ 3 O) sz3 ag3 O O (v:=iZ f.Vars) O<|aa<|dn O O<|nZ<|cZ h O (λhb1 h=>?_) (λhb1 h=>?_)
 ·exact af<|asZ (iZ 11) O<|aD<|gv1 hrg<|hQ _ h
 refine kZ<|qZ<|af<|mvZ (eL ac p) O<|aa<|clZ O<|h_ h λr h=>aa<|c9 O<|nZ<|cZ h O (λhb2 h=>?_) (λhb2 h=>?_)
 ·exact af<|asZ (iZ 3) O<|aD<|gv1 hrg<|hQ _ h
 refine kZ<|af<|asZ .nil O<|nZ<|qZ<|af<|mvZ (eL ak groups) O<|aa<|aG o5 O<|mvZ (iZ 0) O<|nZ<|bZ<|Vc.mat 8 42 1 O dZ (λg2=>lgZ h g2 (λy=>aQ [(1,eL ac p),(3,.ptr rg 3 g1 0 0),(8,.sl 1 rg 42 y.2 0 y.1.2.length),(25,eL ak groups),(26,iZ (groups.length:Int)),(27,iZ y.1.1)]) (λy=>stL S rg [(3,.arr 3 [aA f],g1),(42,.arr 1 (List.map iZ y.1.2),y.2)]) (ap (fZ<|fZ<|fc (VW.slen lzZ)<|fZ<|fZ<|fZ<|fn)<|sc O<|sc O<|sn) (λy _ h=>?_))
 obtain⟨⟨x,before⟩,g3⟩:=y
 refine af<|aa<|a9 O O<|nZ<|qZ<|cZ h O (λhb3 h=>?_) (λhb3 h=>?_)
 ·refine kZ<|qZ<|bZ<|af<|tkZ h (λhg h=>aa<|aV o5 fP dZ (λ_=>O) O O hg<|aa<|bm fP dZ nm O O (v:=ak (at' groups x)) O<|wZ rg<|aX oX te (kk:=3) O (λg4=>aa<|au (aZ 10 O) fP dZ O (w:=ak (at' groups x)) O O O (v:=ak (at' groups x)) O aY<|nZ<|qZ<|af<|aa<|am (aZ 3 O) e7 dZ jc O O (v:=aA f) O<|mvZ (eL ac p) O<|aa<|am (aZ 10 O) fP dZ nm O O (v:=ak (at' groups x)) O<|mvZ (.sl 1 rg 42 g3 0 before.length) O<|aa<|clZ O<|v5 (t3 (aZ 42 O)<|sH)<|me (yz (yg)<|yy) h λe1 h=>mB (t3 (aZ 42 O)<|sH)<|asZ (iZ e1) O<|aU<|mvZ (iZ e1) O<|aa<|dn O O<|nZ<|cZ h O (λhb4 h=>?_) (λhb4 h=>?_)))
  ·exact af<|mvZ (iZ e1) O<|asZ (iZ e1) O<|aD<|gv1 hrg<|hQ _ h
  exact kZ<|rZ<|mvZ (.sl 1 rg 42 g3 0 before.length) O<|aa<|aP cE O<|aa<|ag (aZ 10 O) dJ eG O O (v:=bH ((at' groups x).Members)) O (tkZ h (λhg1 h=>wZ rg<|ck bA nV ok3 hH (es:=before) (xs:=(at' groups x).Members) (enc:=iZ) (aZ 42 O) lzZ (O) (kk:=1) O O (λ_=>O) (λ_=>O) hg1 O (λ_=>aY) (λg5=>asZ (.sl 1 rg 42 g5 0<|(before++(at' groups x).Members).length) O<|nZ<|rZ<|tkZ h (λhg2 h=>aa<|aF O O hg2<|mvZ (iZ<|x+1) O<|nZ<|⟨(((x+1),(before++(at' groups x).Members)),g5),(ap (aE<|fZ<|fZ<|fn)<|sc O<|sc O<|sn),h⟩))))
 exact xsZ<|af<|asZ (iZ 0) O<|aD<|gv1 hrg<|hQ _ h
theorem iU {x:GRat} {Q:GRat->Prop} (h:eO x Q) (hQ:∀r1,Q r1->R (ac r1) S) :
  Ctr Tryz.prog 237 [ac x] S R:=by
 refine aL Tryz.func237 rfl Tryz.ntmps237 Tryz.results237 krZ (λrg hrg=>?_)
 refine af<|wZ rg<|bp (v:=ac x) O O (kk:=3) O dZ (λg1=>wZ rg<|aX bh co (kk:=3) O (λg2=>nZ<|qZ ?_))
 obtain⟨r,hc,h⟩:=h
 obtain⟨r1,hc1,h⟩:=h
 exact Vc.drawn' bz rg (eZ [(0,pc (ac r)),(2,pc (ac r1))]) krZ<|dC (vs:=[iZ 1]) O (vZ<|vn) (λ_=>iD hc (λ_ hr=>⟨by rw[hr],rfl⟩)) O<|dL (E:=([(rg,1)],[])) O O (by simp) (cfn) (am (aZ 1 O) ay dZ aW O O (v:=ac x) O<|dC (vs:=[ac r,ac x]) O (vZ<|vZ<|vn) (λ_=>jA hc1 (λ_ hr=>⟨by rw[hr],rfl⟩)) O<|dL (E:=([],[(rg,2)])) O O (by simp) (cfo krZ<|cfn) (au (aZ 2 O) ay dZ O (w:=ac r1) O O O (v:=ac r1) O aY<|dN<|uZ<|aT (aZ 2 O) ay dZ aW O O (v:=ac r1) O<|aH<|goZ hrg<|hQ _ h))
theorem pi {p:GRat} {beta:GRat} {Q:GRat->GRat->Int->Prop} (h:j4 p beta Q) (hQ:∀r1 r2 r3,Q r1 r2 r3->R (.tuple [ac r1,ac r2,iZ r3]) S) :
  Ctr Tryz.prog 154 [ac p,ac beta] S R:=by
 refine aL Tryz.func154 rfl Tryz.ntmps154 Tryz.results154 krZ (λrg hrg=>?_)
 refine af<|wZ rg<|bp (v:=ac p) O O (kk:=3) O dZ (λg1=>wZ rg<|bp (v:=ac beta) O O (kk:=3) O dZ (λg2=>wZ rg<|aX bh co (kk:=3) O (λg3=>wZ rg<|aX bh co (kk:=3) O (λg4=>asZ (iZ 0) O<|nZ<|qZ<|jgZ (γ:=Nat×Nat×Nat×Nat) h (λy=>aQ [(2,.ptr rg 2 y.2.1 0 0),(3,.ptr rg 3 y.2.2.1 0 0),(4,.ptr rg 4 y.2.2.2.1 0 0),(5,.ptr rg 5 y.2.2.2.2 0 0),(14,.bool y.1)]) (λy=>stL S rg [(2,.arr 3 [ac p],y.2.1),(3,.arr 3 [ac beta],y.2.2.1),(4,.arr 3 [.agg [.bool false,.nil,.nil]],y.2.2.2.1),(5,.arr 3 [.agg [.bool false,.nil,.nil]],y.2.2.2.2)]) (λy h=>?_) (λ_ h=>?_)))))
 ·obtain⟨x,⟨g5,g6,g7,g8⟩⟩:=y
  refine cZ h O (λhb h=>?_) (λhb h=>?_)
  ·exact af<|aa<|cz kG bh jp jg ay (ps:=[]) O O (v:=.agg [.bool false,.nil,.nil]) O<|aa<|cz kG bh jp jg ay (ps:=[]) O O (v:=.agg [.bool false,.nil,.nil]) O<|aa<|au (aZ 4 O) ay dZ O (w:=.agg [.bool false,.nil,.nil]) O O O (v:=.agg [.bool false,.nil,.nil]) O aY<|aa<|au (aZ 5 O) ay dZ O (w:=.agg [.bool false,.nil,.nil]) O O O (v:=.agg [.bool false,.nil,.nil]) O aY<|asZ (iZ 3) O<|aD<|aT (aZ 4 O) ay dZ aW O O (v:=.agg [.bool false,.nil,.nil]) O<|aT (aZ 5 O) ay dZ aW O O (v:=.agg [.bool false,.nil,.nil]) O<|aw (v:=iZ 3) O<|aH<|aK hrg (VW.tupL<|vl' (VW.aggL<|vZ<|vl' (VW.nilL)<|vl' (VW.nilL)<|vn)<|vl' (VW.aggL<|vZ<|vl' (VW.nilL)<|vl' (VW.nilL)<|vn)<|vZ<|vn)<|hQ _ _ _ h
  refine kZ<|af<|aa<|am (aZ 3 O) ay dZ aW O O (v:=ac beta) O<|aa<|am (aZ 2 O) ay dZ aW O O (v:=ac p) O<|aa<|clZ O<|jB h λr h=>aa<|au (aZ 5 O) ay dZ O (w:=ac r) O O O (v:=ac r) O aY<|nZ<|qZ<|af<|aa<|am (aZ 5 O) ay dZ aW O O (v:=ac r) O<|aa<|clZ O<|iU h λr1 h=>aa<|clZ O<|fU h λr2 h=>aa<|br O O<|nZ<|cZ h O (λhb1 h=>?_) (λhb1 h=>?_)
  ·exact qZ<|Vc.drawn' bz rg (λ_=>gb) krZ<|dP O O<|cz kG bh jp jg ay (ps:=[]) O O (v:=.agg [.bool false,.nil,.nil]) O<|dL (E:=([(rg,5)],[])) O O (by simp) (cfn) (am (aZ 5 O) ay dZ aW O O (v:=ac r) O<|dL (E:=([],[(rg,4)])) O O (by simp) (cfa (by simp[aS])<|cfn) (au (aZ 4 O) ay dZ O (w:=.agg [.bool false,.nil,.nil]) O O O (v:=.agg [.bool false,.nil,.nil]) O aY<|dL (E:=([],[(rg,5)])) O O (by simp) (cfo krZ<|cfo krZ<|cfn) (au (aZ 5 O) ay dZ O (w:=ac r) O O O (v:=ac r) O aY<|dP O O<|aB (v:=iZ 0) O<|dN<|uZ<|aT (aZ 4 O) ay dZ aW O O (v:=.agg [.bool false,.nil,.nil]) O<|aT (aZ 5 O) ay dZ aW O O (v:=ac r) O<|aw (v:=iZ 0) O<|aH<|aK hrg (VW.tupL<|vl' (VW.aggL<|vZ<|vl' (VW.nilL)<|vl' (VW.nilL)<|vn)<|vZ<|vZ<|vn)<|hQ _ _ _ h)))
  refine kZ<|qZ ?_
  obtain⟨r3,hc,h⟩:=h
  obtain⟨r4,hc1,h⟩:=h
  obtain⟨r5,r6,hc2,h⟩:=h
  refine Vc.drawn' bz rg (eZ [(2,pc (ac r3)),(4,pc (ac r4)),(5,pc (.tuple [ac r5,iZ r6]))]) krZ (dL (E:=([(rg,2)],[])) O O (by simp) (cfn) (am (aZ 2 O) ay dZ aW O O (v:=ac p) O<|dL (E:=([(rg,5)],[])) O O (by simp) (cfa (by simp[aS])<|cfn) (am (aZ 5 O) ay dZ aW O O (v:=ac r) O<|dC (vs:=[ac p,ac r]) O (vZ<|vZ<|vn) (λ_=>jA hc (λ_ hr=>⟨by rw[hr],rfl⟩)) O<|dL (E:=([(rg,5)],[])) O O (by simp) (cfa (by simp[aS])<|cfa (by simp[aS])<|cfn) (am (aZ 5 O) ay dZ aW O O (v:=ac r) O<|dC (vs:=[ac r]) O (vZ<|vn) (λ_=>iU hc1 (λ_ hr=>⟨by rw[hr],rfl⟩)) O<|dC (vs:=[ac r3,ac r4]) O (vZ<|vZ<|vn) (λ_=>lM hc2 (λ_ _ hr=>⟨by rw[hr.1,hr.2],rfl⟩)) O<|dP O O<|az (v:=.tuple [ac r5,iZ r6]) O<|dP O O<|ah (v:=ac r5) O O O<|dP O O<|ah (v:=iZ r6) O O O<|dL (E:=([],[(rg,4)])) O O (by simp) (cfo krZ<|cfo krZ<|cfo krZ<|cfn) (au (aZ 4 O) ay dZ O (w:=ac r5) O O O (v:=ac r5) O aY<|dN<|qZ<|Vc.drawn' bz rg (λ_=>gb) krZ<|dL (E:=([(rg,4)],[])) O O (by simp) (cfn) (am (aZ 4 O) ay dZ aW O O (v:=ac r5) O<|dL (E:=([(rg,5)],[])) O O (by simp) (cfa (by simp[aS])<|cfn) (am (aZ 5 O) ay dZ aW O O (v:=ac r) O ?_)))))))
  exact dL (E:=([],[(rg,4)])) O O (by simp) (cfa (by simp[aS])<|cfo krZ<|cfn) (au (aZ 4 O) ay dZ O (w:=ac r5) O O O (v:=ac r5) O aY<|dL (E:=([],[(rg,5)])) O O (by simp) (cfo krZ<|cfo krZ<|cfo krZ<|cfn) (au (aZ 5 O) ay dZ O (w:=ac r) O O O (v:=ac r) O aY<|dP O O<|aB (v:=iZ 0) O<|dN<|uZ<|aT (aZ 4 O) ay dZ aW O O (v:=ac r5) O<|aT (aZ 5 O) ay dZ aW O O (v:=ac r) O<|aw (v:=iZ 0) O<|aH<|aK hrg (VW.tupL<|vZ<|vZ<|vZ<|vn)<|hQ _ _ _ h))
 refine rZ<|aa<|am (aZ 2 O) ay dZ aW O O (v:=ac p) O<|aa<|clZ O<|fV h λr7 h=>aa<|c9 O<|mvZ (.bool<|!r7) O<|gfZ h O O (λhb2 h=>?_) (λhb2 h=>?_)
 ·exact aa<|am (aZ 3 O) ay dZ aW O O (v:=ac beta) O<|gTZ O O hb2<|aa<|clZ O<|fV h λr8 h=>gTZ O O hb2<|aa<|c9 O<|aa<|aJ O hb2 (v:=.bool (!r8)) O<|nZ<|⟨((!r8),(g1,g2,g3,g4)),(ap (aE<|fZ<|fn)<|e9 O O O O<|sn),h⟩
 exact gFZ O O hb2 O<|gFZ O O hb2 O<|aa<|aI O hb2 (v:=.bool true) O<|nZ<|⟨(true,(g1,g2,g3,g4)),(ap (aE<|fZ<|fn)<|e9 O O O O<|sn),h⟩
theorem nB {n:Int} {k1:Int} {Q:Int->Prop} (h:iV n k1 Q) (hQ:∀r1,Q r1->R (iZ r1) S) :
  Ctr Tryz.prog 238 [iZ n,iZ k1] S R:=by
 refine aL Tryz.func238 rfl Tryz.ntmps238 Tryz.results238 krZ (λrg hrg=>?_)
 refine af<|asZ (iZ 0) O<|aU<|asZ (iZ 1) O<|nZ<|qZ<|af<|mvZ (iZ k1) O<|mvZ (iZ 0) O<|nZ<|bZ<|lpZ h (λy=>aQ [(0,iZ n),(5,iZ y.1),(7,iZ k1),(8,iZ y.2)]) (λy=>stL S rg []) (ap (aE<|fn)<|sn) (λy _ h=>?_)
 obtain⟨out,x⟩:=y
 refine af<|aa<|a9 O O<|nZ<|qZ<|cZ h O (λhb h=>?_) (λhb h=>?_)
 ·exact kZ<|qZ<|bZ<|af<|mvZ (iZ x) O<|asZ (iZ x) O<|nZ<|rZ<|mvZ (iZ out) O<|mvZ (iZ n) O<|mvZ (iZ x) O<|tkZ h (λhg h=>aa<|bo O O hg<|tkZ h (λhg1 h=>aa<|rO O O hg1<|mvZ (iZ x) O<|tkZ h (λhg2 h=>aa<|aF O O hg2<|tkZ h (λhg3 h=>aa<|wX O O hg3<|asZ (iZ<|Int.tdiv (out*(n-x))<|x+1) O<|nZ<|rZ<|tkZ h (λhg4 h=>aa<|aF O O hg4<|mvZ (iZ<|x+1) O<|nZ<|⟨((Int.tdiv (out*(n-x))<|x+1),(x+1)),(ap (aE<|fn)<|sn),h⟩)))))
 exact xsZ<|af<|mvZ (iZ out) O<|asZ (iZ out) O<|aD<|gv1 hrg<|hQ _ h
theorem oz {p:GRat} {factors:List GRat} {Q:List GRat->Int->Prop} (h:jw p factors Q) (hQ:∀r1 r2,Q r1 r2->R (.tuple [eL ac r1,iZ r2]) S) :
  Ctr Tryz.prog 155 [ac p,eL ac factors] S R:=by
 refine aL Tryz.func155 rfl Tryz.ntmps155 Tryz.results155 krZ (λrg hrg=>?_)
 refine af<|wZ rg<|bp (v:=ac p) O O (kk:=3) O dZ (λg1=>asZ .nil O<|asZ (iZ 0) O<|nZ<|qZ<|jgZ (γ:=Nat) h (λy=>aQ [(1,eL ac factors),(2,.ptr rg 2 y.2 0 0),(18,.bool y.1)]) (λy=>stL S rg [(2,.arr 3 [ac p],y.2)]) (λy h=>?_) (λ_ h=>?_))
 ·obtain⟨x,g2⟩:=y
  refine cZ h O (λhb h=>?_) (λhb h=>?_)
  ·exact af<|asZ .nil O<|asZ (iZ 3) O<|aD<|aw (v:=.nil) O<|aw (v:=iZ 3) O<|aH<|aK hrg (VW.tupL<|vl' (VW.nilL)<|vZ<|vn)<|hQ _ _ h
  refine kZ<|qZ<|jgZ (γ:=Nat) h (λy=>aQ [(1,eL ac factors),(2,.ptr rg 2 y.2 0 0),(26,.bool y.1)]) (λy=>stL S rg [(2,.arr 3 [ac p],y.2)]) (λy h=>?_) (λ_ h=>?_)
  ·obtain⟨x1,g3⟩:=y
   refine cZ h O (λhb1 h=>?_) (λhb1 h=>?_)
   ·exact af<|asZ .nil O<|asZ (iZ 11) O<|aD<|aw (v:=.nil) O<|aw (v:=iZ 11) O<|aH<|aK hrg (VW.tupL<|vl' (VW.nilL)<|vZ<|vn)<|hQ _ _ h
   refine kZ<|af<|mvZ (eL ac factors) O<|aa<|aG cm O<|tkZ h (λhg h=>aa<|aF O O hg<|asZ (iZ<|(factors.length:Int)+1) O<|aU<|aa<|am (aZ 2 O) ay dZ aW O O (v:=ac p) O<|wZ rg<|aX bh co (kk:=3) O (λg4=>aa<|au (aZ 7 O) ay dZ O (w:=ac p) O O O (v:=ac p) O aY<|aU<|asZ .nil O<|nZ<|qZ<|af<|asZ (iZ 1) O<|nZ<|bZ<|Vc.mat 8 69 3 O dZ (λg5=>lgZ h (g4,g5) (λy=>aQ [(1,eL ac factors),(6,iZ ((factors.length:Int)+1)),(7,.ptr rg 7 y.2.1 0 0),(8,.sl 3 rg 69 y.2.2 0 y.1.2.2.length),(9,iZ y.1.1)]) (λy=>stL S rg [(7,.arr 3 [ac y.1.2.1],y.2.1),(69,.arr 3 (List.map ac y.1.2.2),y.2.2)]) (ap (fZ<|fZ<|fZ<|fc (VW.slen lzZ)<|fZ<|fn)<|sc O<|sc O<|sn) (λy _ h=>?_))))
   obtain⟨⟨k1,x2,out⟩,⟨g6,g7⟩⟩:=y
   refine qZ<|af<|mvZ (iZ k1) O<|mvZ (iZ<|(factors.length:Int)+1) O<|aa<|lR O O<|nZ<|cZ h O (λhb2 h=>?_) (λhb2 h=>?_)
   ·refine kZ<|qZ<|bZ<|af<|aa<|am (aZ 7 O) ay dZ aW O O (v:=ac x2) O<|wZ rg<|aX bh co (kk:=3) O (λg8=>aa<|au (aZ 10 O) ay dZ O (w:=ac x2) O O O (v:=ac x2) O aY<|nZ<|jgZ (γ:=Nat×Nat×Nat) h (λy=>aQ [(1,eL ac factors),(6,iZ ((factors.length:Int)+1)),(7,.ptr rg 7 y.2.1 0 0),(8,.sl 3 rg 69 y.2.2.2 0 out.length),(9,iZ k1),(10,.ptr rg 10 y.2.2.1 0 0)]) (λy=>stL S rg [(7,.arr 3 [ac y.1.1],y.2.1),(10,.arr 3 [ac y.1.2],y.2.2.1),(69,.arr 3 (List.map ac out),y.2.2.2)]) (λy h=>?_) (λ_ h=>?_))
    ·obtain⟨⟨x3,x4⟩,⟨g9,g10,g11⟩⟩:=y
     refine qZ<|tkZ h (λhg1 h=>tkZ h (λhg2 h=>?_))
     obtain⟨r,hc,h⟩:=h
     obtain⟨r1,hc1,h⟩:=h
     obtain⟨r2,r3,hc2,h⟩:=h
     refine Vc.drawn' bz rg (eZ [(5,pc (iZ r)),(6,pc (ac r1)),(7,pc (.tuple [ac r2,iZ r3]))]) krZ (dL (E:=([(rg,10)],[])) O O (by simp) (cfn) (am (aZ 10 O) ay dZ aW O O (v:=ac x4) O<|dP O O<|az (v:=iZ ((factors.length:Int)+1)) O (dP O O<|bo O O hg1<|dP O O<|az (v:=iZ k1) O<|dP O O<|bo O O hg2<|dC (vs:=[iZ (((factors.length:Int)+1)-1),iZ (k1-1)]) O (vZ<|vZ<|vn) (λ_=>nB hc (λ_ hr=>⟨by rw[hr],rfl⟩)) O<|dC (vs:=[iZ r]) O (vZ<|vn) (λ_=>iD hc1 (λ_ hr=>⟨by rw[hr],rfl⟩)) O<|dC (vs:=[ac x4,ac r1]) O (vZ<|vZ<|vn) (λ_=>lM hc2 (λ_ _ hr=>⟨by rw[hr.1,hr.2],rfl⟩)) O<|dP O O<|az (v:=.tuple [ac r2,iZ r3]) O<|dP O O<|ah (v:=ac r2) O O O<|dP O O<|ah (v:=iZ r3) O O O<|dL (E:=([],[(rg,10)])) O O (by simp) (cfo krZ<|cfn) (au (aZ 10 O) ay dZ O (w:=ac r2) O O O (v:=ac r2) O aY<|dN<|rZ<|mvZ (.sl 3 rg 69 g11 0 out.length) O<|aa<|am (aZ 10 O) ay dZ aW O O (v:=ac r2) O<|wZ rg<|ba cm co bh (es:=[ac r2]) O (kk:=3) O O O O O O (λg12=>tkZ h (λhg3 h=>wZ rg<|ck cm tN co bh (es:=out) (xs:=[r2]) (enc:=ac) (aZ 69 O) lzZ (bv (aZ 68 O) lzZ) (kk:=3) O O (λ_=>O) (λ_=>O) hg3 O (λ_=>aY) (λg13=>asZ (.sl 3 rg 69 g13 0<|(out++[r2]).length) O<|nZ<|rZ<|mvZ (iZ k1) O ?_)))))))
     exact tkZ h (λhg4 h=>aa<|aF O O hg4<|asZ (iZ<|k1+1) O<|nZ<|⟨(((k1+1),x3,(out++[r2])),(g9,g13)),(ap (aE<|fZ<|fn)<|sc O<|sc O<|sn),h⟩)
    refine af<|mvZ (iZ k1) O<|mvZ (iZ<|(factors.length:Int)+1) O<|aa<|a9 O O<|nZ<|cZ h O (λhb3 h=>?_) (λhb3 h=>?_)
    ·refine qZ<|tkZ h (λhg5 h=>tkZ h (λhg6 h=>?_))
     obtain⟨r4,hc3,h⟩:=h
     obtain⟨r5,hc4,h⟩:=h
     refine Vc.drawn' bz rg (eZ [(6,pc (ac r4)),(7,pc (ac r5))]) krZ<|dL (E:=([(rg,7)],[])) O O (by simp) (cfn) (am (aZ 7 O) ay dZ aW O O (v:=ac x2) O<|dP O O<|az (v:=eL ac factors) O<|dP O O<|az (v:=iZ k1) O<|dP O O<|bo O O hg5<|dP O O<|aV cm ay dZ (λ_=>O) O O hg6<|dP O O<|bm ay dZ aW O O (v:=ac (at' factors<|k1-1)) O (dC (vs:=[ac (at' factors<|k1-1)]) O (vZ<|vn) (λ_=>iU hc3 (λ_ hr=>⟨by rw[hr],rfl⟩)) O<|dC (vs:=[ac x2,ac r4]) O (vZ<|vZ<|vn) (λ_=>jB hc4 (λ_ hr=>⟨by rw[hr],rfl⟩)) O<|dL (E:=([],[(rg,10)])) O O (by simp) (cfo krZ<|cfn) (au (aZ 10 O) ay dZ O (w:=ac r5) O O O (v:=ac r5) O aY<|dN<|tkZ h (λhg7 h=>tkZ h (λhg8 h=>?_)))))
     obtain⟨r6,hc5,h⟩:=h
     exact Vc.drawn' bz rg (eZ [(6,pc (ac r6))]) krZ<|dL (E:=([(rg,7)],[])) O O (by simp) (cfn) (am (aZ 7 O) ay dZ aW O O (v:=ac x2) O<|dP O O<|az (v:=eL ac factors) O<|dP O O<|az (v:=iZ k1) O<|dP O O<|bo O O hg7<|dP O O<|aV cm ay dZ (λ_=>O) O O hg8<|dP O O<|bm ay dZ aW O O (v:=ac (at' factors<|k1-1)) O (dC (vs:=[ac x2,ac (at' factors<|k1-1)]) O (vZ<|vZ<|vn) (λ_=>jB hc5 (λ_ hr=>⟨by rw[hr],rfl⟩)) O<|dL (E:=([],[(rg,7)])) O O (by simp) (cfo krZ<|cfn) (au (aZ 7 O) ay dZ O (w:=ac r6) O O O (v:=ac r6) O aY<|dN<|⟨((r6,r5),(g6,g8,g7)),(ap (aE<|fZ<|fZ<|fn)<|sc O<|sc O<|sc O<|sn),h⟩)))
    exact kZ<|⟨((x2,x2),(g6,g8,g7)),(ap (aE<|fZ<|fZ<|fn)<|sc O<|sc O<|sc O<|sn),h⟩
   exact xsZ<|af<|mvZ (.sl 3 rg 69 g7 0 out.length) O<|asZ (.sl 3 rg 69 g7 0 out.length) O<|asZ (iZ 0) O<|aD<|aw (v:=.sl 3 rg 69 g7 0 out.length) O<|aw (v:=iZ 0) O<|aH<|bk (k:=69) (xs:=List.map ac out) O (v':=.tuple [eL ac out,iZ 0]) (VW.tupL<|vl' (bf O)<|vZ<|vn)<|aK hrg (VW.tupL<|vZ<|vZ<|vn)<|hQ _ _ h
  refine rZ<|mvZ (eL ac factors) O<|aa<|aG cm O<|aa<|a9 O O<|mvZ (.bool<|decide<|(factors.length:Int)<1) O<|gfZ h O O (λhb4 h=>?_) (λhb4 h=>?_)
  ·exact mvZ (eL ac factors) O<|gTZ O O hb4<|aa<|aG cm O<|gTZ O O hb4<|aa<|dp O O<|aa<|aJ O hb4 (v:=.bool (decide<|3<(factors.length:Int))) O (nZ<|⟨((decide<|3<(factors.length:Int)),g2),(ap (fZ<|fZ<|fZ<|fn)<|sc O<|sn),h⟩)
  exact gFZ O O hb4 O<|gFZ O O hb4 O<|aa<|aI O hb4 (v:=.bool true) O<|nZ<|⟨(true,g2),(ap (fZ<|fZ<|fZ<|fn)<|sc O<|sn),h⟩
 refine rZ<|aa<|am (aZ 2 O) ay dZ aW O O (v:=ac p) O<|aa<|clZ O<|fV h λr7 h=>aa<|c9 O<|mvZ (.bool<|!r7) O<|gfZ h O O (λhb5 h=>?_) (λhb5 h=>?_)
 ·exact mvZ (eL ac factors) O<|gTZ O O hb5<|aa<|clZ O<|h_ h λr8 h=>gTZ O O hb5<|aa<|c9 O<|aa<|aJ O hb5 (v:=.bool (!r8)) O<|nZ<|⟨((!r8),g1),(ap (fZ<|fZ<|fZ<|fn)<|sc O<|sn),h⟩
 exact gFZ O O hb5 O<|gFZ O O hb5 O<|aa<|aI O hb5 (v:=.bool true) O<|nZ<|⟨(true,g1),(ap (fZ<|fZ<|fZ<|fn)<|sc O<|sn),h⟩
theorem nC {g1:GCauseGroup} {p:GRat} {Q:List Int->List GRat->GRat->Prop} (h:iW g1 p Q) (hQ:∀r1 r2 r3,Q r1 r2 r3->R (.tuple [bH r1,eL ac r2,ac r3]) S) :
  Ctr Tryz.prog 77 [ak g1,ac p] S R:=by
 refine aL Tryz.func77 rfl Tryz.ntmps77 Tryz.results77 krZ (λrg hrg=>?_)
 refine af<|wZ rg<|bp (v:=ak g1) O O (kk:=3) O dZ (λg2=>wZ rg<|bp (v:=ac p) O O (kk:=3) O dZ (λg3=>asZ .nil O<|asZ .nil O<|wZ rg<|aX bh co (kk:=3) O (λg4=>aU<|aa<|aP cE O<|aa<|ag (aZ 2 O) dJ eG O O (v:=bH g1.Members) O<|aa<|aG bA O<|asZ (iZ (g1.Members.length:Int)) O<|nZ<|qZ<|af<|aa<|aP jn O<|aa<|ag (aZ 2 O) sz3 ag3 O O (v:=iZ g1.Kind) O<|aa<|br O O<|nZ<|cZ h O (λhb h=>?_) (λhb h=>?_))))
 ·refine qZ<|tkZ h (λhg h=>?_)
  obtain⟨r,r1,r2,hc,h⟩:=h
  refine Vc.drawn' bz rg (eZ [(5,pc (.tuple [ac r,ac r1,iZ r2]))]) krZ<|dL (E:=([(rg,3)],[])) O O (by simp) (cfn) (am (aZ 3 O) ay dZ aW O O (v:=ac p) O<|dP O O<|aP iI O<|dL (E:=([(rg,2)],[])) O O (by simp) (cfa (by simp[aS])<|cfn) (ag (aZ 2 O) l_ n3 O O (v:=eL ac g1.Factors) O<|dP O O<|aV cm ay dZ (λ_=>O) O O hg<|dP O O<|bm ay dZ aW O O (v:=ac (at' g1.Factors 0)) O<|dC (vs:=[ac p,ac (at' g1.Factors 0)]) O (vZ<|vZ<|vn) (λ_=>pi hc (λ_ _ _ hr=>⟨by rw[hr.1,hr.2.1,hr.2.2],rfl⟩)) O<|dP O O<|az (v:=.tuple [ac r,ac r1,iZ r2]) O<|dP O O<|ah (v:=ac r) O O O<|dP O O<|ah (v:=ac r1) O O O<|dP O O<|ah (v:=iZ r2) O O O<|dL (E:=([],[(rg,8)])) O O (by simp) (cfa (by simp[aS])<|cfa (by simp[aS])<|cfn) (aX bh co (kk:=3) O (λg5=>dL (E:=([],[(rg,9)])) O O (by simp) (cfa (by simp[aS])<|cfa (by simp[aS])<|cfa (by simp[aS])<|cfn) (aX bh co (kk:=3) O (λg6=>dL (E:=([],[(rg,8)])) O O (by simp) (cfo krZ<|cfo krZ<|cfo krZ<|cfo krZ<|cfn) (au (aZ 8 O) ay dZ O (w:=ac r) O O O (v:=ac r) O aY<|dL (E:=([],[(rg,9)])) O O (by simp) (cfo krZ<|cfo krZ<|cfo krZ<|cfo krZ<|cfo krZ<|cfn) (au (aZ 9 O) ay dZ O (w:=ac r1) O O O (v:=ac r1) O aY<|dP O O<|aB (v:=iZ r2) O<|dN<|qZ ?_))))))))
  refine tkZ h (λhg1 h=>tkZ h (λhg2 h=>Vc.drawn' bz rg (λ_=>gb) krZ<|dP O O<|az (v:=iZ (g1.Members.length:Int)) O<|dP O O<|mg O O hg1<|dP O O<|bo O O hg2<|dL (E:=([],[(rg,37)])) O O (by simp) (cfn) (ba bA ok3 hH (es:=[iZ ((1*2^(Int.toNat (g1.Members.length:Int)))-1)]) O (kk:=1) O O O O O O (λg7=>dL (E:=([(rg,9)],[])) O O (by simp) (cfa (by simp[aS])<|cfn) (am (aZ 9 O) ay dZ aW O O (v:=ac r1) O<|dL (E:=([],[(rg,39)])) O O (by simp) (cfo krZ<|cfa (by simp[aS])<|cfn) (ba cm co bh (es:=[ac r1]) O (kk:=3) O O O O O O (λg8=>dL (E:=([(rg,8)],[])) O O (by simp) (cfa (by simp[aS])<|cfa (by simp[aS])<|cfa (by simp[aS])<|cfn) (am (aZ 8 O) ay dZ aW O O (v:=ac r) O<|dP O O<|aB (v:=.sl 1 rg 37 g7 0 ([((1*2^(Int.toNat (g1.Members.length:Int)))-1)].length)) O (dP O O<|aB (v:=.sl 3 rg 39 g8 0 ([r1].length)) O<|dL (E:=([],[(rg,6)])) O O (by simp) (cfo krZ<|cfo krZ<|cfo krZ<|cfo krZ<|cfn) (au (aZ 6 O) ay dZ O (w:=ac r) O O O (v:=ac r) O aY<|dN<|uZ<|aw (v:=.sl 1 rg 37 g7 0 ([((1*2^(Int.toNat (g1.Members.length:Int)))-1)].length)) O (aw (v:=.sl 3 rg 39 g8 0 ([r1].length)) O<|aT (aZ 6 O) ay dZ aW O O (v:=ac r) O<|aH ?_)))))))))))
  exact bk (k:=37) (xs:=List.map iZ [((1*2^(Int.toNat (g1.Members.length:Int)))-1)]) O (v':=.tuple [bH [((1*2^(Int.toNat (g1.Members.length:Int)))-1)],.sl 3 rg 39 g8 0 ([r1].length),ac r]) (VW.tupL<|vl' (bf O)<|vl' (i9 O)<|vZ<|vn) (bk (k:=39) (xs:=List.map ac [r1]) O (v':=.tuple [bH [((1*2^(Int.toNat (g1.Members.length:Int)))-1)],eL ac [r1],ac r]) (VW.tupL<|vZ<|vl' (bf O)<|vZ<|vn) (aK hrg (VW.tupL<|vZ<|vZ<|vZ<|vn)<|hQ _ _ _ h))
 refine kZ<|af<|aa<|am (aZ 3 O) ay dZ aW O O (v:=ac p) O<|aa<|aP iI O<|aa<|ag (aZ 2 O) l_ n3 O O (v:=eL ac g1.Factors) O<|aa<|clZ O<|oz h λr3 r4 h=>mvZ (.tuple [eL ac r3,iZ r4]) O<|aa<|ah (v:=eL ac r3) O O O<|aa<|ah (v:=iZ r4) O O O<|asZ (eL ac r3) O<|asZ (iZ r4) O<|aU<|asZ .nil O<|aU<|asZ .nil O<|nZ<|qZ<|af<|asZ (iZ 1) O<|nZ<|bZ<|Vc.mat 13 70 1 O dZ (λg9=>Vc.mat 14 78 3 O dZ (λg10=>lgZ h (g9,g10) (λy=>aQ [(6,.ptr rg 6 g4 0 0),(7,iZ (g1.Members.length:Int)),(11,eL ac r3),(13,.sl 1 rg 70 y.2.1 0 y.1.2.1.length),(14,.sl 3 rg 78 y.2.2 0 y.1.2.2.length),(15,iZ y.1.1)]) (λy=>stL S rg [(6,.arr 3 [.agg [.bool false,.nil,.nil]],g4),(70,.arr 1 (List.map iZ y.1.2.1),y.2.1),(78,.arr 3 (List.map ac y.1.2.2),y.2.2)]) (ap (fZ<|fZ<|fZ<|fc (VW.slen lzZ)<|fc (VW.slen lzZ)<|fZ<|fn)<|sc O<|sc O<|sc O<|sn) (λy _ h=>?_)))
 obtain⟨⟨set,sets,probs⟩,⟨g11,g12⟩⟩:=y
 refine qZ<|af<|mvZ (iZ set) O<|mvZ (iZ (g1.Members.length:Int)) O<|tkZ h (λhg3 h=>aa<|mg O O hg3<|aa<|a9 O O<|nZ<|cZ h O (λhb1 h=>?_) (λhb1 h=>?_))
 ·refine kZ<|qZ<|bZ<|af<|asZ (iZ 0) O<|nZ<|qZ<|af<|mvZ (iZ (g1.Members.length:Int)) O<|mvZ (iZ 0) O<|nZ<|bZ<|lpZ h (λy=>aQ [(6,.ptr rg 6 g4 0 0),(7,iZ (g1.Members.length:Int)),(11,eL ac r3),(13,.sl 1 rg 70 g11 0 sets.length),(14,.sl 3 rg 78 g12 0 probs.length),(15,iZ set),(16,iZ y.1),(54,iZ (g1.Members.length:Int)),(55,iZ y.2)]) (λy=>stL S rg [(6,.arr 3 [.agg [.bool false,.nil,.nil]],g4),(70,.arr 1 (List.map iZ sets),g11),(78,.arr 3 (List.map ac probs),g12)]) (ap (aE<|aE<|fZ<|fn)<|sc O<|sc O<|sc O<|sn) (λy _ h=>?_)
  obtain⟨size,x⟩:=y
  refine af<|aa<|a9 O O<|nZ<|qZ<|cZ h O (λhb2 h=>?_) (λhb2 h=>?_)
  ·exact kZ<|qZ<|bZ<|af<|mvZ (iZ x) O<|asZ (iZ x) O<|nZ<|rZ<|mvZ (iZ size) O<|mvZ (iZ set) O<|mvZ (iZ x) O<|tkZ h (λhg4 h=>aa<|eb O O hg4<|aa<|mT O O<|tkZ h (λhg5 h=>aa<|aF O O hg5<|stZ h (λsize1 hs h=>wZ rg<|aB (v:=iZ size1) (by subst hs;rfl)<|nZ<|rZ<|tkZ h (λhg6 h=>aa<|aF O O hg6<|mvZ (iZ<|x+1) O<|nZ<|⟨(size1,(x+1)),(ap (aE<|aE<|fZ<|fn)<|sc O<|sc O<|sc O<|sn),h⟩))))
  refine xsZ<|af<|mvZ (iZ size) O<|aa<|dp O O<|nZ<|cZ h O (λhb3 h=>?_) (λhb3 h=>?_)
  ·refine tkZ h (λhg7 h=>tkZ h (λhg8 h=>tkZ h (λhg9 h=>tkZ h (λhg10 h=>Vc.drawn' bz rg (λ_=>gb) krZ<|dP O O<|az (v:=.sl 1 rg 70 g11 0 sets.length) O<|dP O O<|az (v:=iZ set) O<|dL (E:=([],[(rg,69)])) O O (by simp) (cfn) (ba bA ok3 hH (es:=[iZ set]) O (kk:=1) O O O O O O (λg13=>dL (E:=([(rg,69)],[(rg,70)])) O O (by simp) (cfo krZ<|cfn) (ck bA nV ok3 hH (es:=sets) (xs:=[set]) (enc:=iZ) (aZ 70 O) lzZ (bv (aZ 69 O) lzZ) (kk:=1) O O (λ_=>O) (λ_=>O) hg7 O (λ_=>aY) (λg14=>dP O O<|az (v:=.sl 3 rg 78 g12 0 probs.length) O<|dP O O<|az (v:=eL ac r3) O<|dP O O<|az (v:=iZ size) O<|dP O O<|bo O O hg8<|dP O O<|aV cm ay dZ (λ_=>O) O O hg9<|dP O O<|bm ay dZ aW O O (v:=ac (at' r3<|size-1)) O (dL (E:=([],[(rg,77)])) O O (by simp) (cfa (by simp[aS])<|cfa (by simp[aS])<|cfn) (ba cm co bh (es:=[ac (at' r3<|size-1)]) O (kk:=3) O O O O O O (λg15=>dL (E:=([(rg,77)],[(rg,78)])) O O (by simp) (cfo krZ<|cfo krZ<|cfo krZ<|cfn) (ck cm tN co bh (es:=probs) (xs:=[(at' r3<|size-1)]) (enc:=ac) (aZ 78 O) lzZ (bv (aZ 77 O) lzZ) (kk:=3) O O (λ_=>O) (λ_=>O) hg10 O (λ_=>aY) (λg16=>dP O O<|aB (v:=.sl 1 rg 70 g14 0 ((sets++[set]).length)) O ?_)))))))))))))
   exact dP O O<|aB (v:=.sl 3 rg 78 g16 0 ((probs++[(at' r3<|size-1)]).length)) O (dN<|rZ<|mvZ (iZ set) O<|tkZ h (λhg11 h=>aa<|aF O O hg11<|asZ (iZ<|set+1) O<|nZ<|⟨(((set+1),(sets++[set]),(probs++[(at' r3<|size-1)])),(g14,g16)),(ap (aE<|fZ<|fZ<|fn)<|sc O<|sc O<|sc O<|sn),h⟩))
  exact kZ<|rZ<|mvZ (iZ set) O<|tkZ h (λhg12 h=>aa<|aF O O hg12<|asZ (iZ<|set+1) O<|nZ<|⟨(((set+1),sets,probs),(g11,g12)),(ap (aE<|fZ<|fZ<|fn)<|sc O<|sc O<|sc O<|sn),h⟩)
 exact xsZ<|qZ<|tkZ h (λhg13 h=>Vc.drawn' bz rg (λ_=>gb) krZ<|dP O O<|az (v:=.sl 1 rg 70 g11 0 sets.length) O<|dP O O<|az (v:=.sl 3 rg 78 g12 0 probs.length) O<|dP O O<|az (v:=eL ac r3) O<|dP O O<|aV cm ay dZ (λ_=>O) O O hg13<|dP O O<|bm ay dZ aW O O (v:=ac (at' r3 0)) O<|dP O O<|aB (v:=.sl 1 rg 70 g11 0 sets.length) O<|dP O O<|aB (v:=.sl 3 rg 78 g12 0 probs.length) O<|dL (E:=([],[(rg,6)])) O O (by simp) (cfn) (au (aZ 6 O) ay dZ O (w:=ac (at' r3 0)) O O O (v:=ac (at' r3 0)) O aY<|dN<|uZ<|aw (v:=.sl 1 rg 70 g11 0 sets.length) O<|aw (v:=.sl 3 rg 78 g12 0 probs.length) O<|aT (aZ 6 O) ay dZ aW O O (v:=ac (at' r3 0)) O<|aH<|bk (k:=70) (xs:=List.map iZ sets) O (v':=.tuple [bH sets,.sl 3 rg 78 g12 0 probs.length,ac (at' r3 0)]) (VW.tupL<|vl' (bf O)<|vl' (i9 O)<|vZ<|vn)<|bk (k:=78) (xs:=List.map ac probs) O (v':=.tuple [bH sets,eL ac probs,ac (at' r3 0)]) (VW.tupL<|vZ<|vl' (bf O)<|vZ<|vn)<|aK hrg (VW.tupL<|vZ<|vZ<|vZ<|vn)<|hQ _ _ _ h))
end Go.Proofs.YtnjgdkfhgmebjaaGreat
namespace Go.Proofs.YtnjgdkfhgmebjaaGreat
open Go.Gg
set_option maxRecDepth 100000
variable {S:St} {R:AV->St->Prop}
theorem nD {f:GFormula} {p:List GRat} {groups:List GCauseGroup} {set:Int} {Q:Int->Prop} (h:eh f p groups set Q) (hQ:∀r1,Q r1->R (iZ r1) S) :
  Ctr Tryz.prog 26 [aA f,eL ac p,eL ak groups,iZ set] S R:=by
 refine aL Tryz.func26 rfl Tryz.ntmps26 Tryz.results26 krZ (λrg hrg=>?_)
 refine af<|wZ rg<|bp (v:=aA f) O O (kk:=3) O dZ (λg1=>asZ (iZ 0) O<|nZ<|qZ<|tkZ h (λhg h=>tkZ h (λhg1 h=>Vc.drawn' bz rg (λ_=>gb) krZ<|dP O O<|aP cH O<|dL (E:=([(rg,4)],[])) O O (by simp) (cfn) (ag (aZ 4 O) sz3 ag3 O O (v:=iZ f.Vars) O<|dP O O<|az (v:=iZ set) O<|dP O O<|aP cH O<|dL (E:=([(rg,4)],[])) O O (by simp) (cfa (by simp[aS])<|cfn) (ag (aZ 4 O) sz3 ag3 O O (v:=iZ f.Vars) O<|dP O O<|mg O O hg<|dP O O<|bo O O hg1<|dP O O<|mT O O<|dP O O<|aB (v:=iZ f.Vars) O<|dP O O<|aB (v:=iZ (bits .and .i64 set<|(1*2^(Int.toNat f.Vars))-1)) O (dN<|qZ<|af<|mvZ (eL ak groups) O<|aa<|aG o5 O<|mvZ (iZ 0) O<|nZ<|bZ<|lpZ h (λy=>aQ [(1,eL ac p),(3,iZ set),(9,iZ y.1),(10,iZ y.2.1),(28,eL ak groups),(29,iZ (groups.length:Int)),(30,iZ y.2.2)]) (λy=>stL S rg []) (ap (aE<|fZ<|fZ<|fZ<|fn)<|sn) (λy _ h=>?_)))))))
 obtain⟨at1,out,x⟩:=y
 refine af<|aa<|a9 O O<|nZ<|qZ<|cZ h O (λhb h=>?_) (λhb h=>?_)
 ·refine kZ<|qZ<|bZ<|af<|tkZ h (λhg2 h=>aa<|aV o5 fP dZ (λ_=>O) O O hg2<|aa<|bm fP dZ nm O O (v:=ak (at' groups x)) O<|wZ rg<|aX oX te (kk:=3) O (λg2=>aa<|au (aZ 12 O) fP dZ O (w:=ak (at' groups x)) O O O (v:=ak (at' groups x)) O aY<|nZ<|qZ<|tkZ h (λhg3 h=>tkZ h (λhg4 h=>?_))))
  obtain⟨r,r1,r2,hc,h⟩:=h
  refine Vc.drawn' bz rg (eZ [(8,pc (.tuple [bH r,eL ac r1,ac r2]))]) krZ<|dL (E:=([(rg,12)],[])) O O (by simp) (cfn) (am (aZ 12 O) fP dZ nm O O (v:=ak (at' groups x)) O<|dP O O<|az (v:=eL ac p) O<|dP O O<|aP cE O<|dL (E:=([(rg,12)],[])) O O (by simp) (cfa (by simp[aS])<|cfn) (ag (aZ 12 O) dJ eG O O (v:=bH ((at' groups x).Members)) O (dP O O<|aV bA sz3 dZ (λ_=>O) O O hg3<|dP O O<|a8 sz3 ag3 O O (v:=iZ (at' ((at' groups x).Members) 0)) O (dP O O<|aV cm ay dZ (λ_=>O) O O hg4<|dP O O<|bm ay dZ aW O O (v:=ac (at' p<|at' ((at' groups x).Members) 0)) O (dC (vs:=[ak (at' groups x),ac (at' p<|at' ((at' groups x).Members) 0)]) O (vZ<|vZ<|vn) (λ_=>nC hc (λ_ _ _ hr=>⟨by rw[hr.1,hr.2.1,hr.2.2],rfl⟩)) O<|dP O O<|az (v:=.tuple [bH r,eL ac r1,ac r2]) O<|dP O O<|ah (v:=bH r) O O O<|dP O O<|ah (v:=eL ac r1) O O O<|dP O O<|ah (v:=ac r2) O O O<|dL (E:=([],[(rg,15)])) O O (by simp) (cfa (by simp[aS])<|cfa (by simp[aS])<|cfn) (aX bh co (kk:=3) O (λg3=>dP O O<|aB (v:=bH r) O<|dP O O<|aB (v:=eL ac r1) O<|dL (E:=([],[(rg,15)])) O O (by simp) (cfo krZ<|cfo krZ<|cfo krZ<|cfn) (au (aZ 15 O) ay dZ O (w:=ac r2) O O O (v:=ac r2) O aY<|dN<|af<|mvZ (bH r) O ?_))))))))
  refine aa<|aG bA O<|mvZ (iZ 0) O<|nZ<|bZ<|lgZ h g2 (λy=>aQ [(1,eL ac p),(3,iZ set),(9,iZ y.1.1),(10,iZ y.1.2.1),(12,.ptr rg 12 y.2 0 0),(28,eL ak groups),(29,iZ (groups.length:Int)),(30,iZ x),(47,bH r),(48,iZ (r.length:Int)),(49,iZ y.1.2.2)]) (λy=>stL S rg [(12,.arr 3 [ak (at' groups x)],y.2)]) (ap (aE<|aE<|fZ<|fZ<|fZ<|fn)<|sc O<|sn) (λy _ h=>?_)
  obtain⟨⟨at2,out1,x1⟩,g4⟩:=y
  refine af<|aa<|a9 O O<|nZ<|qZ<|cZ h O (λhb1 h=>?_) (λhb1 h=>?_)
  ·refine kZ<|qZ<|bZ<|af<|tkZ h (λhg5 h=>aa<|aV bA sz3 dZ (λ_=>O) O O hg5<|aa<|a8 sz3 ag3 O O (v:=iZ (at' r x1)) O<|asZ (iZ<|at' r x1) O<|nZ<|qZ<|af<|aa<|aP cE O<|aa<|ag (aZ 12 O) dJ eG O O (v:=bH ((at' groups x).Members)) O (aa<|aG bA O<|mvZ (iZ 0) O<|nZ<|bZ<|lgZ h g4 (λy=>aQ [(1,eL ac p),(3,iZ set),(9,iZ at2),(10,iZ y.1.1),(12,.ptr rg 12 y.2 0 0),(17,iZ (at' r x1)),(28,eL ak groups),(29,iZ (groups.length:Int)),(30,iZ x),(47,bH r),(48,iZ (r.length:Int)),(49,iZ x1),(54,bH ((at' groups x).Members)),(55,iZ (((at' groups x).Members).length:Int)),(56,iZ y.1.2)]) (λy=>stL S rg [(12,.arr 3 [ak (at' groups x)],y.2)]) (ap (aE<|aE<|aE<|fZ<|fZ<|fZ<|fn)<|sc O<|sn) (λy _ h=>?_)))
   obtain⟨⟨out2,x2⟩,g5⟩:=y
   refine af<|aa<|a9 O O<|nZ<|qZ<|cZ h O (λhb2 h=>?_) (λhb2 h=>?_)
   ·refine kZ<|qZ<|bZ<|af<|mvZ (iZ x2) O<|tkZ h (λhg6 h=>aa<|aV bA sz3 dZ (λ_=>O) O O hg6<|aa<|a8 sz3 ag3 O O (v:=iZ (at' ((at' groups x).Members) x2)) O (asZ (iZ x2) O<|asZ (iZ<|at' ((at' groups x).Members) x2) O<|nZ<|jgZ (γ:=Nat) h (λy=>aQ [(1,eL ac p),(3,iZ set),(9,iZ at2),(10,iZ out2),(12,.ptr rg 12 y.2 0 0),(17,iZ (at' r x1)),(19,iZ (at' ((at' groups x).Members) x2)),(28,eL ak groups),(29,iZ (groups.length:Int)),(30,iZ x),(47,bH r),(48,iZ (r.length:Int)),(49,iZ x1),(54,bH ((at' groups x).Members)),(55,iZ (((at' groups x).Members).length:Int)),(56,iZ x2),(72,.bool y.1)]) (λy=>stL S rg [(12,.arr 3 [ak (at' groups x)],y.2)]) (λy h=>?_) (λ_ h=>?_)))
    ·obtain⟨x3,g6⟩:=y
     refine cZ h O (λhb3 h=>?_) (λhb3 h=>?_)
     ·exact rZ<|mvZ (iZ out2) O<|mvZ (iZ<|at' ((at' groups x).Members) x2) O<|tkZ h (λhg7 h=>aa<|mg O O hg7<|aa<|qz O O<|stZ h (λout3 hs h=>wZ rg<|aB (v:=iZ out3) (by subst hs;rfl)<|nZ<|rZ<|tkZ h (λhg8 h=>aa<|aF O O hg8<|mvZ (iZ<|x2+1) O<|nZ<|⟨((out3,(x2+1)),g6),(ap (aE<|aE<|aE<|fZ<|fZ<|fZ<|fn)<|sc O<|sn),h⟩)))
     exact kZ<|rZ<|tkZ h (λhg9 h=>aa<|aF O O hg9<|mvZ (iZ<|x2+1) O<|nZ<|⟨((out2,(x2+1)),g6),(ap (aE<|aE<|aE<|fZ<|fZ<|fZ<|fn)<|sc O<|sn),h⟩)
    refine rZ<|mvZ (iZ set) O<|mvZ (iZ at2) O<|tkZ h (λhg10 h=>aa<|eb O O hg10<|aa<|mT O O<|aa<|br O O<|mvZ (.bool<|(bits .and .i64 (set / 2^(Int.toNat at2)) 1) == 1) O (gtZ h O O (λhb4 h=>?_) (λhb4 h=>?_)))
    ·exact mvZ (iZ<|at' r x1) O<|gTZ O O hb4<|mvZ (iZ x2) O<|gTZ O O hb4<|tkZ h (λhg11 h=>aa<|eb O O hg11<|gTZ O O hb4<|aa<|mT O O<|gTZ O O hb4<|aa<|br O O<|aa<|aI O hb4 (v:=.bool ((bits .and .i64 ((at' r x1) / 2^(Int.toNat x2)) 1) == 1)) O (nZ<|⟨(((bits .and .i64 ((at' r x1) / 2^(Int.toNat x2)) 1) == 1),g5),(ap (aE<|aE<|aE<|aE<|fZ<|fn)<|sc O<|sn),h⟩))
    exact gFZ O O hb4 O<|gFZ O O hb4 O<|gFZ O O hb4 O<|gFZ O O hb4 O<|aa<|aJ O hb4 (v:=.bool false) O<|nZ<|⟨(false,g5),(ap (aE<|aE<|aE<|aE<|fZ<|fn)<|sc O<|sn),h⟩
   exact xsZ<|rZ<|mvZ (iZ at2) O<|tkZ h (λhg12 h=>aa<|aF O O hg12<|asZ (iZ<|at2+1) O<|nZ<|rZ<|tkZ h (λhg13 h=>aa<|aF O O hg13<|mvZ (iZ<|x1+1) O<|nZ<|⟨(((at2+1),out2,(x1+1)),g5),(ap (aE<|aE<|fZ<|fZ<|fZ<|fn)<|sc O<|sn),h⟩))
  exact xsZ<|rZ<|tkZ h (λhg14 h=>aa<|aF O O hg14<|mvZ (iZ<|x+1) O<|nZ<|⟨(at2,out1,(x+1)),(ap (aE<|fZ<|fZ<|fZ<|fn)<|sn),h⟩)
 exact xsZ<|af<|mvZ (iZ out) O<|asZ (iZ out) O<|aD<|gv1 hrg<|hQ _ h
end Go.Proofs.YtnjgdkfhgmebjaaGreat
