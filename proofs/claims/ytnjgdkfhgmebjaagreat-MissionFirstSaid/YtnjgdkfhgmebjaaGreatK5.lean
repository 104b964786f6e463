/- Walks of functions. Conditions: none. -/
import Derived.Test.YtnjgdkfhgmebjaaGreatWa
import Derived.Test.YtnjgdkfhgmebjaaGreatGgTy
import Derived.Test.YtnjgdkfhgmebjaaGreatGd
import Derived.Test.YtnjgdkfhgmebjaaGreatK2
import Derived.Test.YtnjgdkfhgmebjaaGreatK4
import Derived.Test.YtnjgdkfhgmebjaaGreatK1
namespace Go.Proofs.YtnjgdkfhgmebjaaGreat
open Go.Gg
set_option maxRecDepth 100000
variable {S:St} {R:AV->St->Prop}
theorem rC {m:GMission} {j:Int} {Q:Option Int->Prop} (h:kE m j Q) (hQ:∀r1,Q r1->R (a9 82 r1) S) :
  Ctr Tryz.prog 104 [ar m,iZ j] S R:=by
 refine aH Tryz.func104 rfl Tryz.ntmps104 Tryz.results104 krZ (λrg hrg=>?_)
 refine ah<|wZ rg<|bx (v:=ar m) O O (kk:=2) O dZ (λg1=>asZ .niface O<|nZ<|qZ<|ah<|ac<|aw (aZ 2 O) dp dZ eR O O (v:=ar m) O<|ac<|clZ O<|ie h λerr h=>asZ (a9 82 err) O<|aV<|mvZ (a9 82 err) O<|ac<|cU gu (E:=82) O O O<|nZ<|cZ h O (λhb h=>?_) (λhb h=>?_))
 ·exact ah<|mvZ (a9 82 err) O<|asZ (a9 82 err) O<|aF<|gv1 hrg<|hQ _ h
 refine kZ<|qZ<|jnZ h (λy=>a8 [(19,.bool y)]) (λy=>stL S rg []) (λx h=>?_) (λ_ h=>?_)
 ·refine cZ h O (λhb1 h=>?_) (λhb1 h=>?_)
  ·exact ah<|ac<|cC (by rw[iv];trivial) (v:=iZ 10) O<|asZ (.iface 82<|iZ 10) O<|aF<|gv1 hrg<|hQ _ h
  exact kZ<|ah<|asZ .niface O<|aF<|gv1 hrg<|hQ _ h
 refine rZ<|mvZ (iZ j) O<|ac<|bg O O<|mvZ (.bool<|decide<|j<0) O<|gfZ h O O (λhb2 h=>?_) (λhb2 h=>?_)
 ·exact mvZ (iZ j) O<|gTZ O O hb2<|ac<|aD ck O<|gTZ O O hb2<|ac<|ae (aZ 2 O) fi fA O O (v:=eL ak m.Phases) O<|gTZ O O hb2<|ac<|aI ez O<|gTZ O O hb2<|ac<|fk O O<|ac<|ba O hb2 (v:=.bool (decide<|(m.Phases.length:Int)<=j)) O (nZ<|⟨(decide<|(m.Phases.length:Int)<=j),(canon (fZ<|fn)<|sn),h⟩)
 exact gFZ O O hb2 O<|gFZ O O hb2 O<|gFZ O O hb2 O<|gFZ O O hb2 O<|ac<|bf O hb2 (v:=.bool true) O<|nZ<|⟨true,(canon (fZ<|fn)<|sn),h⟩
theorem qy {f:GFormula} {Q:GFormula->Prop} (h:jK f Q) (hQ:∀r1,Q r1->R (ak r1) S) :
  Ctr Tryz.prog 105 [ak f] S R:=by
 refine aH Tryz.func105 rfl Tryz.ntmps105 Tryz.results105 krZ (λrg hrg=>?_)
 refine ah<|wZ rg<|bx (v:=ak f) O O (kk:=3) O dZ (λg1=>wZ rg<|aU eS m4 (kk:=3) O (λg2=>aV<|ac<|aD bT O<|ac<|ae (aZ 1 O) sz3 ag3 O O (v:=iZ f.Vars) O<|ac<|aD gy O<|ac<|ae (aZ 1 O) sz3 ag3 O O (v:=iZ f.Top) O<|ac<|bG sv eS qi pZ b9 (ps:=[(0,iZ f.Vars),(2,iZ f.Top)]) O O (v:=.agg [iZ f.Vars,.nil,iZ f.Top]) O (wZ rg<|aU eS m4 (kk:=3) O (λg3=>ac<|ay (aZ 3 O) b9 dZ O (w:=.agg [iZ f.Vars,.nil,iZ f.Top]) O O O (v:=.agg [iZ f.Vars,.nil,iZ f.Top]) O aS<|nZ<|qZ<|ah<|ac<|aD bD O<|ac<|ae (aZ 1 O) db dD O O (v:=eL aR f.Nodes) O<|ac<|aI cP O<|mvZ (iZ 0) O<|nZ<|bZ<|Vc.matB 3 1 29 3 (b:=λg4=>.agg [iZ f.Vars,.sl 3 rg 29 g4 0 0,iZ f.Top]) O O dZ dZ O (λg4=>lgZ h g4 (λy=>a8 [(2,.ptr rg 2 g2 0 0),(3,.ptr rg 3 g3 0 0),(12,eL aR f.Nodes),(13,iZ (f.Nodes.length:Int)),(14,iZ y.1.1)]) (λy=>stL S rg [(2,.arr 3 [.agg [iZ 0,.nil,iZ 0]],g2),(3,.arr 3 [.agg [iZ f.Vars,.sl 3 rg 29 y.2 0 y.1.2.length,iZ f.Top]],g3),(29,.arr 3 (List.map aR y.1.2),y.2)]) (EWk.trans (EWk.ow (k:=3) (o':=.arr 3 [.agg [iZ f.Vars,.sl 3 rg 29 g4 0 ([].length),iZ f.Top]]) O<|OW.one<|VWL.vwc<|vZ<|vl' (VW.slen lzZ)<|vZ<|vn)<|canon (aN<|fZ<|fn)<|sc O<|sc O<|sc O<|sn) (λy _ h=>?_))))))
 obtain⟨⟨x,x1⟩,g5⟩:=y
 refine ah<|ac<|bg O O<|nZ<|qZ<|cZ h O (λhb h=>?_) (λhb h=>?_)
 ·refine kZ<|qZ<|bZ<|ah<|tkZ h (λhg h=>ac<|aQ cP cm dZ (λ_=>O) O O hg<|ac<|b_ cm dZ nA O O (v:=aR (at' f.Nodes x)) O<|wZ rg<|aU cS fS (kk:=3) O (λg6=>ac<|ay (aZ 5 O) cm dZ O (w:=aR (at' f.Nodes x)) O O O (v:=aR (at' f.Nodes x)) O aS<|nZ ?_))
  obtain⟨r,hc,h⟩:=h
  refine tkZ h (λhg1 h=>Vc.drawn' bC rg (fh [(8,pc (bd r))]) krZ<|dP O O<|aD bD O<|dL (E:=([(rg,3)],[])) O O (by simp) (cfn) (ae (aZ 3 O) db dD O O (v:=.sl 3 rg 29 g5 0 x1.length) O<|dP O O<|aD eE O<|dL (E:=([(rg,5)],[])) O O (by simp) (cfa (by simp[aJ])<|cfn) (ae (aZ 5 O) sz3 ag3 O O (v:=iZ ((at' f.Nodes x).Kind)) O (dP O O<|aD dh O<|dL (E:=([(rg,5)],[])) O O (by simp) (cfa (by simp[aJ])<|cfa (by simp[aJ])<|cfn) (ae (aZ 5 O) sz3 ag3 O O (v:=iZ ((at' f.Nodes x).K)) O (dP O O<|aD cD O<|dL (E:=([(rg,5)],[])) O O (by simp) (cfa (by simp[aJ])<|cfa (by simp[aJ])<|cfa (by simp[aJ])<|cfn) (ae (aZ 5 O) dl fR O O (v:=bd ((at' f.Nodes x).Args)) O (dC (vs:=[bd ((at' f.Nodes x).Args)]) O (vZ<|vn) (λ_=>lz hc (λ_ hr=>⟨by rw[hr],rfl⟩)) O<|dP O O<|bG oG cS pd oH cm (ps:=[(0,iZ ((at' f.Nodes x).Kind)),(1,iZ ((at' f.Nodes x).K)),(2,bd r)]) O O (v:=.agg [iZ ((at' f.Nodes x).Kind),iZ ((at' f.Nodes x).K),bd r]) O (dL (E:=([],[(rg,28)])) O O (by simp) (cfo krZ<|cfo krZ<|cfo krZ<|cfa (by simp[aJ])<|cfn) (bq cP fS cS (es:=[.agg [iZ ((at' f.Nodes x).Kind),iZ ((at' f.Nodes x).K),bd r]]) O (kk:=3) O O O O O O (λg7=>?_)))))))))))
  exact dL (E:=([(rg,28)],[(rg,29)])) O O (by simp) (cfo krZ<|cfo krZ<|cfo krZ<|cfo krZ<|cfo krZ<|cfn) (cr cP s8 fS cS (es:=x1) (xs:=[(⟨(at' f.Nodes x).Kind,(at' f.Nodes x).K,r⟩:GNode)]) (enc:=aR) (aZ 29 O) lzZ (bz (aZ 28 O) lzZ) (kk:=3) O O (λ_=>O) (λ_=>O) hg1 O (λ_=>aS) (λg8=>dP O O<|aD bD O<|dL (E:=([],[(rg,3)])) O O (by simp) (cfo krZ<|cfo krZ<|cfo krZ<|cfo krZ<|cfo krZ<|cfo krZ<|cfn) (ay (aZ 3 O) db dZ O (w:=.sl 3 rg 29 g8 0 ((x1++[(⟨(at' f.Nodes x).Kind,(at' f.Nodes x).K,r⟩:GNode)]).length)) O O O (v:=.agg [iZ f.Vars,.sl 3 rg 29 g8 0 ((x1++[(⟨(at' f.Nodes x).Kind,(at' f.Nodes x).K,r⟩:GNode)]).length),iZ f.Top]) O aS (dN<|rZ<|tkZ h (λhg2 h=>ac<|aC O O hg2<|mvZ (iZ<|x+1) O<|nZ<|⟨(((x+1),(x1++[(⟨(at' f.Nodes x).Kind,(at' f.Nodes x).K,r⟩:GNode)])),g8),(canon (aN<|fZ<|fn)<|sc O<|sc O<|sc O<|sn),h⟩)))))
 exact xsZ<|ah<|ac<|aw (aZ 3 O) b9 dZ eH O O (v:=.agg [iZ f.Vars,.sl 3 rg 29 g5 0 x1.length,iZ f.Top]) O<|ac<|ay (aZ 2 O) b9 dZ O (w:=.agg [iZ f.Vars,.sl 3 rg 29 g5 0 x1.length,iZ f.Top]) O O O (v:=.agg [iZ f.Vars,.sl 3 rg 29 g5 0 x1.length,iZ f.Top]) O aS<|aF<|bh (aZ 2 O) b9 dZ eH O O (v:=.agg [iZ f.Vars,.sl 3 rg 29 g5 0 x1.length,iZ f.Top]) O<|aK<|br (k:=29) (xs:=List.map aR x1) O (v':=.agg [iZ f.Vars,eL aR x1,iZ f.Top]) (VW.aggL<|vZ<|vl' (be O)<|vZ<|vn)<|goZ hrg<|hQ _ h
theorem ua {x:GRat} {Q:GRat->Prop} (h:m8 x Q) (hQ:∀r1,Q r1->R (aq r1) S) :
  Ctr Tryz.prog 106 [aq x] S R:=by
 refine aH Tryz.func106 rfl Tryz.ntmps106 Tryz.results106 krZ (λrg hrg=>?_)
 refine ah<|wZ rg<|bx (v:=aq x) O O (kk:=3) O dZ (λg1=>wZ rg<|aU bN dz (kk:=3) O (λg2=>nZ<|qZ ?_))
 obtain⟨r,hc,h⟩:=h
 obtain⟨r1,hc1,h⟩:=h
 exact Vc.drawn' bC rg (fh [(4,pc (am r)),(7,pc (am r1))]) krZ<|dP O O<|aD o7 O<|dL (E:=([(rg,1)],[])) O O (by simp) (cfn) (ae (aZ 1 O) sz4 ag4 O O (v:=.bool x.Neg) O<|dP O O<|aD iU O<|dL (E:=([(rg,1)],[])) O O (by simp) (cfa (by simp[aJ])<|cfn) (ae (aZ 1 O) i8 jB O O (v:=am x.Num) O<|dC (vs:=[am x.Num]) O (vZ<|vn) (λ_=>ft hc (λ_ hr=>⟨by rw[hr],rfl⟩)) O<|dP O O<|aD jN O<|dL (E:=([(rg,1)],[])) O O (by simp) (cfa (by simp[aJ])<|cfa (by simp[aJ])<|cfn) (ae (aZ 1 O) i8 jB O O (v:=am x.Den) O<|dC (vs:=[am x.Den]) O (vZ<|vn) (λ_=>ft hc1 (λ_ hr=>⟨by rw[hr],rfl⟩)) O<|dP O O<|bG nf bN kr j7 a_ (ps:=[(0,.bool x.Neg),(1,am r),(2,am r1)]) O O (v:=.agg [.bool x.Neg,am r,am r1]) O (dL (E:=([],[(rg,2)])) O O (by simp) (cfo krZ<|cfo krZ<|cfo krZ<|cfn) (ay (aZ 2 O) a_ dZ O (w:=.agg [.bool x.Neg,am r,am r1]) O O O (v:=.agg [.bool x.Neg,am r,am r1]) O aS<|dN<|uZ<|bh (aZ 2 O) a_ dZ bK O O (v:=.agg [.bool x.Neg,am r,am r1]) O<|aK<|goZ hrg<|hQ _ h)))))
theorem my {m:GMission} {j:Int} {Q:GMission->Option Int->Prop} (h:fp m j Q) (hQ:∀r1 r2,Q r1 r2->R (.tuple [ar r1,a9 82 r2]) S) :
  Ctr Tryz.prog 45 [ar m,iZ j] S R:=by
 refine aH Tryz.func45 rfl Tryz.ntmps45 Tryz.results45 krZ (λrg hrg=>?_)
 refine ah<|wZ rg<|bx (v:=ar m) O O (kk:=2) O dZ (λg1=>wZ rg<|aU od y5 (kk:=2) O (λg2=>asZ .niface O<|nZ<|qZ<|ah<|ac<|aw (aZ 2 O) dp dZ eR O O (v:=ar m) O<|mvZ (iZ j) O<|ac<|clZ O<|rC h λerr h=>asZ (a9 82 err) O<|aV<|mvZ (a9 82 err) O<|ac<|cU gu (E:=82) O O O<|nZ<|cZ h O (λhb h=>?_) (λhb h=>?_)))
 ·exact ah<|ac<|bG BT od BJ AP dp (ps:=[]) O O (v:=.agg [.nil,.nil]) O<|mvZ (a9 82 err) O<|ac<|ay (aZ 4 O) dp dZ O (w:=.agg [.nil,.nil]) O O O (v:=.agg [.nil,.nil]) O aS<|asZ (a9 82 err) O<|aF<|bh (aZ 4 O) dp dZ eR O O (v:=.agg [.nil,.nil]) O<|aE (v:=a9 82 err) O<|aK<|aT hrg (VW.tupL<|vl' (VW.aggL<|vl' (VW.nilL)<|vl' (VW.nilL)<|vn)<|vZ<|vn)<|hQ _ _ h
 refine kZ<|ah<|wZ rg<|aU od y5 (kk:=2) O (λg3=>nZ<|qZ<|ah<|ac<|aD ck O<|ac<|ae (aZ 2 O) fi fA O O (v:=eL ak m.Phases) O<|mvZ (iZ j) O<|tkZ h (λhg h=>ac<|aC O O hg<|tkZ h (λhg1 h=>ac<|gR ez b9 dZ (λ_=>O) O (l:=0) (h:=(j+1)) O O hg1<|ac<|aI ez O<|mvZ (iZ 0) O<|nZ<|bZ<|Vc.matB 7 0 37 3 (b:=λg4=>.agg [.sl 3 rg 37 g4 0 0,.nil]) O O dZ dZ O (λg4=>lgZ h g4 (λy=>a8 [(1,iZ j),(2,.ptr rg 2 g1 0 0),(4,.ptr rg 4 g2 0 0),(7,.ptr rg 7 g3 0 0),(26,eL ak (bH m.Phases 0<|j+1)),(27,iZ ((bH m.Phases 0<|j+1).length:Int)),(28,iZ y.1.1)]) (λy=>stL S rg [(2,.arr 2 [ar m],g1),(4,.arr 2 [.agg [.nil,.nil]],g2),(7,.arr 2 [.agg [.sl 3 rg 37 y.2 0 y.1.2.length,.nil]],g3),(37,.arr 3 (List.map ak y.1.2),y.2)]) (EWk.trans (EWk.ow (k:=7) (o':=.arr 2 [.agg [.sl 3 rg 37 g4 0 ([].length),.nil]]) O<|OW.one<|VWL.vwc<|vl' (VW.slen lzZ)<|vZ<|vn)<|canon (aN<|fZ<|fZ<|fZ<|fn)<|cB O O O O<|sn) (λy _ h=>?_)))))
 obtain⟨⟨x,x1⟩,g5⟩:=y
 refine ah<|ac<|bg O O<|nZ<|qZ<|cZ h O (λhb1 h=>?_) (λhb1 h=>?_)
 ·refine kZ<|qZ<|bZ<|ah<|tkZ h (λhg2 h=>ac<|aQ ez b9 dZ (λ_=>O) O O hg2<|ac<|b_ b9 dZ eH O O (v:=ak (at' (bH m.Phases 0<|j+1) x)) O (wZ rg<|aU eS m4 (kk:=3) O (λg6=>ac<|ay (aZ 9 O) b9 dZ O (w:=ak (at' (bH m.Phases 0<|j+1) x)) O O O (v:=ak (at' (bH m.Phases 0<|j+1) x)) O aS (nZ ?_))))
  obtain⟨r,hc,h⟩:=h
  exact tkZ h (λhg3 h=>Vc.drawn' bC rg (fh [(3,pc (ak r))]) krZ<|dP O O<|aD ck O<|dL (E:=([(rg,7)],[])) O O (by simp) (cfn) (ae (aZ 7 O) fi fA O O (v:=.sl 3 rg 37 g5 0 x1.length) O<|dL (E:=([(rg,9)],[])) O O (by simp) (cfa (by simp[aJ])<|cfn) (aw (aZ 9 O) b9 dZ eH O O (v:=ak (at' (bH m.Phases 0<|j+1) x)) O (dC (vs:=[ak (at' (bH m.Phases 0<|j+1) x)]) O (vZ<|vn) (λ_=>qy hc (λ_ hr=>⟨by rw[hr],rfl⟩)) O<|dL (E:=([],[(rg,36)])) O O (by simp) (cfo krZ<|cfa (by simp[aJ])<|cfn) (bq ez m4 eS (es:=[ak r]) O (kk:=3) O O O O O O (λg7=>dL (E:=([(rg,36)],[(rg,37)])) O O (by simp) (cfo krZ<|cfo krZ<|cfo krZ<|cfn) (cr ez FN m4 eS (es:=x1) (xs:=[r]) (enc:=ak) (aZ 37 O) lzZ (bz (aZ 36 O) lzZ) (kk:=3) O O (λ_=>O) (λ_=>O) hg3 O (λ_=>aS) (λg8=>dP O O<|aD ck O<|dL (E:=([],[(rg,7)])) O O (by simp) (cfo krZ<|cfo krZ<|cfo krZ<|cfo krZ<|cfn) (ay (aZ 7 O) fi dZ O (w:=.sl 3 rg 37 g8 0 ((x1++[r]).length)) O O O (v:=.agg [.sl 3 rg 37 g8 0 ((x1++[r]).length),.nil]) O aS (dN<|rZ<|tkZ h (λhg4 h=>ac<|aC O O hg4<|mvZ (iZ<|x+1) O<|nZ<|⟨(((x+1),(x1++[r])),g8),(canon (aN<|fZ<|fZ<|fZ<|fn)<|cB O O O O<|sn),h⟩)))))))))))
 refine xsZ<|qZ<|ah<|ac<|aD cX O<|ac<|ae (aZ 2 O) gK iH O O (v:=eL (eL aq) m.P) O<|ac<|aI gf O<|mvZ (iZ 0) O<|nZ<|bZ<|Vc.matB 7 1 66 1 (b:=λg9=>.agg [.sl 3 rg 37 g5 0 x1.length,.sl 1 rg 66 g9 0 0]) O O dZ dZ O (λg9=>lgZ h g9 (λy=>a8 [(1,iZ j),(4,.ptr rg 4 g2 0 0),(7,.ptr rg 7 g3 0 0),(41,eL (eL aq) m.P),(42,iZ (m.P.length:Int)),(43,iZ y.1.1)]) (λy=>stL S rg [(4,.arr 2 [.agg [.nil,.nil]],g2),(7,.arr 2 [.agg [.sl 3 rg 37 g5 0 x1.length,.sl 1 rg 66 y.2 0 y.1.2.length]],g3),(37,.arr 3 (List.map ak x1),g5),(66,.arr 1 (List.map (eL aq) y.1.2),y.2)]) (EWk.trans (EWk.ow (k:=7) (o':=.arr 2 [.agg [.sl 3 rg 37 g5 0 x1.length,.sl 1 rg 66 g9 0 ([].length)]]) O<|OW.one<|VWL.vwc<|vZ<|vl' (VW.slen lzZ)<|vn)<|canon (aN<|fZ<|fZ<|fn)<|cB O O O O<|sn) (λy _ h=>?_))
 obtain⟨⟨x2,x3⟩,g10⟩:=y
 refine ah<|ac<|bg O O<|nZ<|qZ<|cZ h O (λhb2 h=>?_) (λhb2 h=>?_)
 ·refine kZ<|qZ<|bZ<|ah<|tkZ h (λhg5 h=>ac<|aQ gf hH dZ (λ_=>O) O O hg5<|ac<|aG hH ph O O (v:=eL aq (at' m.P x2)) O<|asZ (eL aq<|at' m.P x2) O<|aV<|asZ .nil O<|nZ<|qZ<|ah<|mvZ (eL aq<|at' m.P x2) O<|mvZ (iZ j) O<|tkZ h (λhg6 h=>ac<|aC O O hg6<|tkZ h (λhg7 h=>ac<|gR d7 a_ dZ (λ_=>O) O (l:=0) (h:=(j+1)) O O hg7<|ac<|aI d7 O<|mvZ (iZ 0) O<|nZ<|bZ<|Vc.mat 12 60 3 O dZ (λg11=>lgZ h g11 (λy=>a8 [(1,iZ j),(4,.ptr rg 4 g2 0 0),(7,.ptr rg 7 g3 0 0),(12,.sl 3 rg 60 y.2 0 y.1.2.length),(41,eL (eL aq) m.P),(42,iZ (m.P.length:Int)),(43,iZ x2),(50,eL aq (bH (at' m.P x2) 0<|j+1)),(51,iZ ((bH (at' m.P x2) 0<|j+1).length:Int)),(52,iZ y.1.1)]) (λy=>stL S rg [(4,.arr 2 [.agg [.nil,.nil]],g2),(7,.arr 2 [.agg [.sl 3 rg 37 g5 0 x1.length,.sl 1 rg 66 g10 0 x3.length]],g3),(37,.arr 3 (List.map ak x1),g5),(60,.arr 3 (List.map aq y.1.2),y.2),(66,.arr 1 (List.map (eL aq) x3),g10)]) (canon (fZ<|fZ<|fZ<|fc (VW.slen lzZ)<|aN<|fZ<|fZ<|fn)<|cB O O O O<|sc O<|sn) (λy _ h=>?_)))))
  obtain⟨⟨x4,row⟩,g12⟩:=y
  refine ah<|ac<|bg O O<|nZ<|qZ<|cZ h O (λhb3 h=>?_) (λhb3 h=>?_)
  ·exact kZ<|qZ<|bZ<|ah<|tkZ h (λhg8 h=>ac<|aQ d7 a_ dZ (λ_=>O) O O hg8<|ac<|b_ a_ dZ bK O O (v:=aq (at' (bH (at' m.P x2) 0<|j+1) x4)) O (wZ rg<|aU bN dz (kk:=3) O (λg13=>ac<|ay (aZ 14 O) a_ dZ O (w:=aq (at' (bH (at' m.P x2) 0<|j+1) x4)) O O O (v:=aq (at' (bH (at' m.P x2) 0<|j+1) x4)) O aS (nZ<|rZ<|mvZ (.sl 3 rg 60 g12 0 row.length) O<|ac<|aw (aZ 14 O) a_ dZ bK O O (v:=aq (at' (bH (at' m.P x2) 0<|j+1) x4)) O (ac<|clZ O<|ua h λr1 h=>wZ rg<|bq d7 dz bN (es:=[aq r1]) O (kk:=3) O O O O O O (λg14=>tkZ h (λhg9 h=>wZ rg<|cr d7 tH dz bN (es:=row) (xs:=[r1]) (enc:=aq) (aZ 60 O) lzZ (bz (aZ 59 O) lzZ) (kk:=3) O O (λ_=>O) (λ_=>O) hg9 O (λ_=>aS) (λg15=>asZ (.sl 3 rg 60 g15 0<|(row++[r1]).length) O<|nZ<|rZ<|tkZ h (λhg10 h=>ac<|aC O O hg10<|mvZ (iZ<|x4+1) O<|nZ<|⟨(((x4+1),(row++[r1])),g15),(canon (aN<|aN<|fZ<|fZ<|fn)<|cB O O O O<|sc O<|sn),h⟩)))))))))
  exact xsZ<|rZ<|ac<|aD cX O<|ac<|ae (aZ 7 O) gK iH O O (v:=.sl 1 rg 66 g10 0 x3.length) O<|mvZ (.sl 3 rg 60 g12 0 row.length) O<|d6 (bo (k:=60) (xs:=List.map aq row) O (es:=[(1,iZ j),(4,.ptr rg 4 g2 0 0),(7,.ptr rg 7 g3 0 0),(41,eL (eL aq) m.P),(42,iZ (m.P.length:Int)),(43,iZ x2),(63,.sl 1 rg 66 g10 0 x3.length),(64,eL aq row)]) (aN<|fZ<|fZ<|fc (eu O)<|fc (be O)<|fn) (m:=[(4,.arr 2 [.agg [.nil,.nil]],g2),(7,.arr 2 [.agg [.sl 3 rg 37 g5 0 x1.length,.sl 1 rg 66 g10 0 x3.length]],g3),(37,.arr 3 (List.map ak x1),g5),(66,.arr 1 (List.map (eL aq) x3),g10)]) (cB O O O O<|sn)) (wZ rg<|bq gf Dj yn (es:=[eL aq row]) O (kk:=1) O O O O O O (λg17=>tkZ h (λhg11 h=>wZ rg<|cr gf FM Dj yn (es:=x3) (xs:=[row]) (enc:=eL aq) (aZ 66 O) lzZ (bz (aZ 65 O) lzZ) (kk:=1) O O (λ_=>O) (λ_=>O) hg11 O (λ_=>aS) (λg18=>ac<|aD cX O<|ac<|ay (aZ 7 O) gK dZ O (w:=.sl 1 rg 66 g18 0 ((x3++[row]).length)) O O O (v:=.agg [.sl 3 rg 37 g5 0 x1.length,.sl 1 rg 66 g18 0 ((x3++[row]).length)]) O aS (nZ<|rZ<|tkZ h (λhg12 h=>ac<|aC O O hg12<|mvZ (iZ<|x2+1) O<|nZ<|⟨(((x2+1),(x3++[row])),g18),(canon (aN<|fZ<|fZ<|fn)<|cB O O O O<|sn),h⟩))))))
 exact xsZ<|ah<|ac<|aw (aZ 7 O) dp dZ eR O O (v:=.agg [.sl 3 rg 37 g5 0 x1.length,.sl 1 rg 66 g10 0 x3.length]) O<|ac<|ay (aZ 4 O) dp dZ O (w:=.agg [.sl 3 rg 37 g5 0 x1.length,.sl 1 rg 66 g10 0 x3.length]) O O O (v:=.agg [.sl 3 rg 37 g5 0 x1.length,.sl 1 rg 66 g10 0 x3.length]) O aS<|asZ .niface O<|aF<|bh (aZ 4 O) dp dZ eR O O (v:=.agg [.sl 3 rg 37 g5 0 x1.length,.sl 1 rg 66 g10 0 x3.length]) O<|aE (v:=.niface) O<|aK<|br (k:=37) (xs:=List.map ak x1) O (v':=.tuple [.agg [eL ak x1,.sl 1 rg 66 g10 0 x3.length],.niface]) (VW.tupL<|vl' (VW.aggL<|vl' (be O)<|vl' (eu O)<|vn)<|vZ<|vn)<|br (k:=66) (xs:=List.map (eL aq) x3) O (v':=.tuple [.agg [eL ak x1,eL (eL aq) x3],.niface]) (VW.tupL<|vl' (VW.aggL<|vZ<|vl' (be O)<|vn)<|vZ<|vn)<|aT hrg (VW.tupL<|vZ<|vZ<|vn)<|hQ _ _ h
end Go.Proofs.YtnjgdkfhgmebjaaGreat
namespace Go.Proofs.YtnjgdkfhgmebjaaGreat
open Go.Gg
set_option maxRecDepth 100000
variable {S:St} {R:AV->St->Prop}
theorem pS {m:GMission} {j:Int} {Q:GRat->Option Int->Prop} (h:eb m j Q) (hQ:∀r1 r2,Q r1 r2->R (.tuple [aq r1,a9 82 r2]) S) :
  Ctr Tryz.prog 47 [ar m,iZ j] S R:=by
 refine aH Tryz.func47 rfl Tryz.ntmps47 Tryz.results47 krZ (λrg hrg=>?_)
 refine ah<|wZ rg<|bx (v:=ar m) O O (kk:=2) O dZ (λg1=>wZ rg<|aU bN dz (kk:=3) O (λg2=>asZ .niface O<|aV<|ac<|aw (aZ 2 O) dp dZ eR O O (v:=ar m) O<|mvZ (iZ j) O<|ac<|clZ O<|my h λr r1 h=>mvZ (.tuple [ar r,a9 82 r1]) O<|ac<|au (v:=ar r) O O O<|ac<|au (v:=a9 82 r1) O O O<|wZ rg<|aU od y5 (kk:=2) O (λg3=>ac<|ay (aZ 6 O) dp dZ O (w:=ar r) O O O (v:=ar r) O aS<|asZ (a9 82 r1) O<|nZ<|qZ<|ah<|mvZ (a9 82 r1) O<|ac<|cU gu (E:=82) O O O<|nZ<|cZ h O (λhb h=>?_) (λhb h=>?_))))
 ·exact ah<|ac<|bG nf bN kr j7 a_ (ps:=[]) O O (v:=.agg [.bool false,.nil,.nil]) O<|mvZ (a9 82 r1) O<|ac<|ay (aZ 4 O) a_ dZ O (w:=.agg [.bool false,.nil,.nil]) O O O (v:=.agg [.bool false,.nil,.nil]) O aS<|asZ (a9 82 r1) O<|aF<|bh (aZ 4 O) a_ dZ bK O O (v:=.agg [.bool false,.nil,.nil]) O<|aE (v:=a9 82 r1) O<|aK<|aT hrg (VW.tupL<|vl' (VW.aggL<|vZ<|vl' (VW.nilL)<|vl' (VW.nilL)<|vn)<|vZ<|vn)<|hQ _ _ h
 exact kZ<|ah<|ac<|aw (aZ 6 O) dp dZ eR O O (v:=ar r) O<|ac<|clZ O<|mz h λr2 r3 h=>ac<|au (v:=aq r2) O O O<|ac<|au (v:=a9 82 r3) O O O<|ac<|ay (aZ 4 O) a_ dZ O (w:=aq r2) O O O (v:=aq r2) O aS<|asZ (a9 82 r3) O<|aF<|bh (aZ 4 O) a_ dZ bK O O (v:=aq r2) O<|aE (v:=a9 82 r3) O<|aK<|aT hrg (VW.tupL<|vZ<|vZ<|vn)<|hQ _ _ h
end Go.Proofs.YtnjgdkfhgmebjaaGreat
namespace Go.Proofs.YtnjgdkfhgmebjaaGreat
open Go.Gg
set_option maxRecDepth 100000
variable {S:St} {R:AV->St->Prop}
theorem xF {f:GFormula} {values:List Bool} {failed:Int} {arg:Int} {Q:Bool->Prop} (h:qt f values failed arg Q) (hQ:∀r1,Q r1->R (AV.bool r1) S) :
  Ctr Tryz.prog 245 [ak f,eL AV.bool values,iZ failed,iZ arg] S R:=by
 refine aH Tryz.func245 rfl Tryz.ntmps245 Tryz.results245 krZ (λrg hrg=>?_)
 refine ah<|wZ rg<|bx (v:=ak f) O O (kk:=3) O dZ (λg1=>asZ (.bool false) O<|nZ<|qZ<|ah<|mvZ (iZ arg) O<|ac<|aD bT O<|ac<|ae (aZ 4 O) sz3 ag3 O O (v:=iZ f.Vars) O<|ac<|bg O O<|nZ<|cZ h O (λhb h=>?_) (λhb h=>?_))
 ·exact ah<|mvZ (iZ failed) O<|mvZ (iZ arg) O<|tkZ h (λhg h=>ac<|im O O hg<|ac<|zd O O<|ac<|bE O O<|asZ (.bool<|(bits .and .i64 (failed / 2^(Int.toNat arg)) 1) == 1) O (aF<|gv1 hrg<|hQ _ h))
 exact kZ<|ah<|mvZ (eL AV.bool values) O<|mvZ (iZ arg) O<|ac<|aD bT O<|ac<|ae (aZ 4 O) sz3 ag3 O O (v:=iZ f.Vars) O<|tkZ h (λhg1 h=>ac<|bQ O O hg1<|tkZ h (λhg2 h=>ac<|aQ eA sz4 dZ (λ_=>O) O O hg2<|ac<|aG sz4 ag4 O O (v:=.bool (at' values<|arg-f.Vars)) O (asZ (.bool<|at' values<|arg-f.Vars) O<|aF<|gv1 hrg<|hQ _ h)))
theorem sE {f:GFormula} {values:List Bool} {valueso:Nat} {valuesl:Nat} {failed:Int} {arg:Int} {q0 k0 g0:Nat} {Q:List Bool->Bool->Prop} (h:lK f values valueso valuesl failed arg Q) (hQ:∀r1 r2,Q r1 r2->R (AV.bool r2) (stX S [(q0,k0,.arr 1 (List.map AV.bool r1),g0)])) :
  Ctr Tryz.prog 245 [ak f,.sl 1 q0 k0 g0 valueso valuesl,iZ failed,iZ arg] (stX S [(q0,k0,.arr 1 (List.map AV.bool values),g0)]) R:=by
 refine aH Tryz.func245 rfl Tryz.ntmps245 Tryz.results245 krZ (λrg hrg=>?_)
 have hdx:DX [(q0,k0,.arr 1 (List.map AV.bool values),g0)]:=dx1
 have hfr:=λX' e=>bX (S:=S) (rg:=rg) (X:=[(q0,k0,.arr 1 (List.map AV.bool values),g0)]) (X':=X') e hrg
 have hne0:=aB hdx hrg 0 rfl
 refine ah<|wZ rg<|bx (v:=ak f) O O (kk:=3) O dZ (λg1=>asZ (.bool false) O<|nZ<|qZ<|ah<|mvZ (iZ arg) O<|ac<|aD bT O<|ac<|ae (aZ 4 O) sz3 ag3 O O (v:=iZ f.Vars) O<|ac<|bg O O<|nZ<|cZ h O (λhb h=>?_) (λhb h=>?_))
 ·exact ah<|mvZ (iZ failed) O<|mvZ (iZ arg) O<|tkZ h (λhg h=>ac<|im O O hg<|ac<|zd O O<|ac<|bE O O<|asZ (.bool<|(bits .and .i64 (failed / 2^(Int.toNat arg)) 1) == 1) O (aF<|gv1 (hfr _ O)<|hQ _ _ h))
 exact kZ<|ah<|mvZ (.sl 1 q0 k0 g0 valueso valuesl) O<|mvZ (iZ arg) O<|ac<|aD bT O<|ac<|ae (aZ 4 O) sz3 ag3 O O (v:=iZ f.Vars) O<|tkZ h (λhg1 h=>ac<|bQ O O hg1<|tkZ h (λhi h=>ac<|rr eA sz4 dZ O O hi<|tkZ h (λhg2 h=>ac<|b7 (atX hne0 hdx 0 O) sz4 ag4 O (hg2) O (v:=.bool (at' values<|(valueso:Int)+(arg-f.Vars))) O (asZ (.bool<|at' values<|(valueso:Int)+(arg-f.Vars)) O (aF<|gv1 (hfr _ O)<|hQ _ _ h)))))
theorem sD {f:GFormula} {failed:Int} {Q:List Bool->Prop} (h:lJ f failed Q) (hQ:∀r1,Q r1->R (eL AV.bool r1) S) :
  Ctr Tryz.prog 246 [ak f,iZ failed] S R:=by
 refine aH Tryz.func246 rfl Tryz.ntmps246 Tryz.results246 krZ (λrg hrg=>?_)
 refine ah<|wZ rg<|bx (v:=ak f) O O (kk:=3) O dZ (λg1=>asZ .nil O<|aV<|ac<|aD bD O<|ac<|ae (aZ 2 O) db dD O O (v:=eL aR f.Nodes) O<|ac<|aI cP O<|tkZ h (λhg h=>wZ rg<|fK eA Cp ok4 (enc:=AV.bool) (z':=false) ym (kk:=1) O O O hg (λg2=>asZ (.sl 1 rg 14 g2 0<|Int.toNat (f.Nodes.length:Int)) O<|nZ<|qZ<|ah<|ac<|aD bD O<|ac<|ae (aZ 2 O) db dD O O (v:=eL aR f.Nodes) O<|ac<|aI cP O<|mvZ (iZ 0) O<|nZ<|bZ<|lpZ h (λy=>a8 [(1,iZ failed),(2,.ptr rg 2 g1 0 0),(5,.sl 1 rg 14 g2 0 y.2.length),(16,eL aR f.Nodes),(17,iZ (f.Nodes.length:Int)),(18,iZ y.1)]) (λy=>stL S rg [(2,.arr 3 [ak f],g1),(14,.arr 1 (List.map AV.bool y.2),g2)]) (canon (fZ<|fZ<|fc (VW.slen lzZ)<|fZ<|fZ<|fZ<|fn)<|sc O<|sc O<|sn) (λy _ h=>?_))))
 obtain⟨x,values⟩:=y
 refine ah<|ac<|bg O O<|nZ<|qZ<|cZ h O (λhb h=>?_) (λhb h=>?_)
 ·refine kZ<|qZ<|bZ<|ah<|mvZ (iZ x) O<|tkZ h (λhg1 h=>ac<|aQ cP cm dZ (λ_=>O) O O hg1<|ac<|b_ cm dZ nA O O (v:=aR (at' f.Nodes x)) O<|wZ rg<|aU cS fS (kk:=3) O (λg3=>asZ (iZ x) O<|ac<|ay (aZ 7 O) cm dZ O (w:=aR (at' f.Nodes x)) O O O (v:=aR (at' f.Nodes x)) O aS<|aV<|asZ (iZ 0) O<|nZ<|qZ<|ah<|ac<|aD cD O<|ac<|ae (aZ 7 O) dl fR O O (v:=bd ((at' f.Nodes x).Args)) O (ac<|aI bA O<|mvZ (iZ 0) O<|nZ<|bZ<|lpZ h (λy=>a8 [(1,iZ failed),(2,.ptr rg 2 g1 0 0),(5,.sl 1 rg 14 g2 0 y.2.2.length),(6,iZ x),(7,.ptr rg 7 g3 0 0),(8,iZ y.1),(16,eL aR f.Nodes),(17,iZ (f.Nodes.length:Int)),(18,iZ x),(24,bd ((at' f.Nodes x).Args)),(25,iZ (((at' f.Nodes x).Args).length:Int)),(26,iZ y.2.1)]) (λy=>stL S rg [(2,.arr 3 [ak f],g1),(7,.arr 3 [aR (at' f.Nodes x)],g3),(14,.arr 1 (List.map AV.bool y.2.2),g2)]) (canon (aN<|aN<|aN<|fn)<|sc O<|sc O<|sc O<|sn) (λy _ h=>?_))))
  obtain⟨n,x1,values1⟩:=y
  refine ah<|ac<|bg O O<|nZ<|qZ<|cZ h O (λhb1 h=>?_) (λhb1 h=>?_)
  ·refine kZ<|qZ<|bZ<|ah<|tkZ h (λhg2 h=>ac<|aQ bA sz3 dZ (λ_=>O) O O hg2<|ac<|aG sz3 ag3 O O (v:=iZ (at' ((at' f.Nodes x).Args) x1)) O (asZ (iZ<|at' ((at' f.Nodes x).Args) x1) O<|aV<|ac<|aw (aZ 2 O) b9 dZ eH O O (v:=ak f) O<|mvZ (.sl 1 rg 14 g2 0 values1.length) O<|mvZ (iZ failed) O<|mvZ (iZ<|at' ((at' f.Nodes x).Args) x1) O<|ac<|clZ O<|eG (sw<|aZ 14 O)<|sE h λvalues2 r h=>co aS<|tkZ h (λhl h=>nZ<|cZ h O (λhb2 h=>?_) (λhb2 h=>?_))))
   ·exact rZ<|mvZ (iZ n) O<|tkZ h (λhg3 h=>ac<|aC O O hg3<|asZ (iZ<|n+1) O<|nZ<|rZ<|tkZ h (λhg4 h=>ac<|aC O O hg4<|mvZ (iZ<|x1+1) O<|nZ<|⟨((n+1),(x1+1),values2),(canon (fZ<|fZ<|fc (VW.slen lzZ)<|aN<|aN<|fZ<|fn)<|sc O<|sc O<|sc O<|sn),h⟩))
   exact kZ<|rZ<|tkZ h (λhg5 h=>ac<|aC O O hg5<|mvZ (iZ<|x1+1) O<|nZ<|⟨(n,(x1+1),values2),(canon (fZ<|fZ<|fc (VW.slen lzZ)<|aN<|aN<|fZ<|fn)<|sc O<|sc O<|sc O<|sn),h⟩)
  refine xsZ<|ah<|ac<|aD eE O<|ac<|ae (aZ 7 O) sz3 ag3 O O (v:=iZ ((at' f.Nodes x).Kind)) O (nZ<|bZ<|ah<|ac<|bE O O<|asZ (.bool<|(at' f.Nodes x).Kind == 0) O<|nZ<|cZ h O (λhb3 h=>?_) (λhb3 h=>?_))
  ·exact rZ<|mvZ (.sl 1 rg 14 g2 0 values1.length) O<|mvZ (iZ x) O<|ac<|aD dh O<|ac<|ae (aZ 7 O) sz3 ag3 O O (v:=iZ ((at' f.Nodes x).K)) O (ac<|bE O O<|tkZ h (λhi h=>ac<|bm eA sz4 dZ O O hi<|ac<|bF (aZ 14 O) sz4 dZ (x':=((at' f.Nodes x).K == 1)) (λ_=>O) O O (bM hi lzZ) O O aS<|nZ<|rZ<|tkZ h (λhg6 h=>ac<|aC O O hg6<|mvZ (iZ<|x+1) O<|nZ<|⟨((x+1),(bw values1 x<|(at' f.Nodes x).K == 1)),(canon (fZ<|fZ<|fc (VW.slen lzZ)<|fZ<|fZ<|fZ<|fn)<|sc O<|sc O<|sn),h⟩)))
  refine ah<|ac<|bE O O<|asZ (.bool<|(at' f.Nodes x).Kind == 1) O<|nZ<|cZ h O (λhb4 h=>?_) (λhb4 h=>?_)
  ·exact rZ<|mvZ (.sl 1 rg 14 g2 0 values1.length) O<|mvZ (iZ x) O<|mvZ (iZ n) O<|ac<|bE O O<|tkZ h (λhi1 h=>ac<|bm eA sz4 dZ O O hi1<|ac<|bF (aZ 14 O) sz4 dZ (x':=(n == 0)) (λ_=>O) O O (bM hi1 lzZ) O O aS<|nZ<|rZ<|tkZ h (λhg7 h=>ac<|aC O O hg7<|mvZ (iZ<|x+1) O<|nZ<|⟨((x+1),(bw values1 x<|n == 0)),(canon (fZ<|fZ<|fc (VW.slen lzZ)<|fZ<|fZ<|fZ<|fn)<|sc O<|sc O<|sn),h⟩))
  refine ah<|ac<|bE O O<|asZ (.bool<|(at' f.Nodes x).Kind == 2) O<|nZ<|cZ h O (λhb5 h=>?_) (λhb5 h=>?_)
  ·exact rZ<|mvZ (.sl 1 rg 14 g2 0 values1.length) O<|mvZ (iZ x) O<|mvZ (iZ n) O<|ac<|aD cD O<|ac<|ae (aZ 7 O) dl fR O O (v:=bd ((at' f.Nodes x).Args)) O (ac<|aI bA O<|ac<|bE O O<|tkZ h (λhi2 h=>ac<|bm eA sz4 dZ O O hi2<|ac<|bF (aZ 14 O) sz4 dZ (x':=(n == (((at' f.Nodes x).Args).length:Int))) (λ_=>O) O O (bM hi2 lzZ) O O aS<|nZ<|rZ<|tkZ h (λhg8 h=>ac<|aC O O hg8<|mvZ (iZ<|x+1) O<|nZ<|⟨((x+1),(bw values1 x<|n == (((at' f.Nodes x).Args).length:Int))),(canon (fZ<|fZ<|fc (VW.slen lzZ)<|fZ<|fZ<|fZ<|fn)<|sc O<|sc O<|sn),h⟩)))
  refine ah<|ac<|bE O O<|asZ (.bool<|(at' f.Nodes x).Kind == 3) O<|nZ<|cZ h O (λhb6 h=>?_) (λhb6 h=>?_)
  ·exact rZ<|mvZ (.sl 1 rg 14 g2 0 values1.length) O<|mvZ (iZ x) O<|mvZ (iZ n) O<|ac<|dm O O<|tkZ h (λhi3 h=>ac<|bm eA sz4 dZ O O hi3<|ac<|bF (aZ 14 O) sz4 dZ (x':=(decide<|0<n)) (λ_=>O) O O (bM hi3 lzZ) O O aS<|nZ<|rZ<|tkZ h (λhg9 h=>ac<|aC O O hg9<|mvZ (iZ<|x+1) O<|nZ<|⟨((x+1),(bw values1 x<|decide<|0<n)),(canon (fZ<|fZ<|fc (VW.slen lzZ)<|fZ<|fZ<|fZ<|fn)<|sc O<|sc O<|sn),h⟩))
  refine ah<|ac<|bE O O<|asZ (.bool<|(at' f.Nodes x).Kind == 4) O<|nZ<|cZ h O (λhb7 h=>?_) (λhb7 h=>?_)
  ·exact rZ<|mvZ (.sl 1 rg 14 g2 0 values1.length) O<|mvZ (iZ x) O<|mvZ (iZ n) O<|ac<|aD dh O<|ac<|ae (aZ 7 O) sz3 ag3 O O (v:=iZ ((at' f.Nodes x).K)) O (ac<|fk O O<|tkZ h (λhi4 h=>ac<|bm eA sz4 dZ O O hi4<|ac<|bF (aZ 14 O) sz4 dZ (x':=(decide<|(at' f.Nodes x).K<=n)) (λ_=>O) O O (bM hi4 lzZ) O O aS<|nZ<|rZ<|tkZ h (λhg10 h=>ac<|aC O O hg10<|mvZ (iZ<|x+1) O<|nZ<|⟨((x+1),(bw values1 x<|decide<|(at' f.Nodes x).K<=n)),(canon (fZ<|fZ<|fc (VW.slen lzZ)<|fZ<|fZ<|fZ<|fn)<|sc O<|sc O<|sn),h⟩)))
  exact rZ<|mvZ (.sl 1 rg 14 g2 0 values1.length) O<|mvZ (iZ x) O<|mvZ (iZ n) O<|ac<|y9 O O dZ<|ac<|bE O O<|tkZ h (λhi5 h=>ac<|bm eA sz4 dZ O O hi5<|ac<|bF (aZ 14 O) sz4 dZ (x':=((Int.tmod n 2) == 1)) (λ_=>O) O O (bM hi5 lzZ) O O aS<|nZ<|rZ<|tkZ h (λhg11 h=>ac<|aC O O hg11<|mvZ (iZ<|x+1) O<|nZ<|⟨((x+1),(bw values1 x<|(Int.tmod n 2) == 1)),(canon (fZ<|fZ<|fc (VW.slen lzZ)<|fZ<|fZ<|fZ<|fn)<|sc O<|sc O<|sn),h⟩))
 exact xsZ<|ah<|mvZ (.sl 1 rg 14 g2 0 values.length) O<|asZ (.sl 1 rg 14 g2 0 values.length) O<|aF<|aE (v:=.sl 1 rg 14 g2 0 values.length) O<|aK<|br (k:=14) (xs:=List.map AV.bool values) O (v':=eL AV.bool values) (be O)<|goZ hrg<|hQ _ h
theorem tT {f:GFormula} {failed:Int} {Q:Bool->Prop} (h:mQ f failed Q) (hQ:∀r1,Q r1->R (AV.bool r1) S) :
  Ctr Tryz.prog 169 [ak f,iZ failed] S R:=by
 refine aH Tryz.func169 rfl Tryz.ntmps169 Tryz.results169 krZ (λrg hrg=>?_)
 refine ah<|wZ rg<|bx (v:=ak f) O O (kk:=3) O dZ (λg1=>asZ (.bool false) O<|nZ<|qZ ?_)
 obtain⟨r,hc,h⟩:=h
 obtain⟨r1,hc1,h⟩:=h
 exact Vc.drawn' bC rg (fh [(3,pc (eL AV.bool r)),(7,pc (.bool r1))]) krZ<|dL (E:=([(rg,2)],[])) O O (by simp) (cfn) (aw (aZ 2 O) b9 dZ eH O O (v:=ak f) O<|dL (E:=([(rg,2)],[])) O O (by simp) (cfa (by simp[aJ])<|cfn) (aw (aZ 2 O) b9 dZ eH O O (v:=ak f) O<|dP O O<|aA (v:=iZ failed) O<|dC (vs:=[ak f,iZ failed]) O (vZ<|vZ<|vn) (λ_=>sD hc (λ_ hr=>⟨by rw[hr],rfl⟩)) O<|dP O O<|aA (v:=iZ failed) O<|dP O O<|aD gy O<|dL (E:=([(rg,2)],[])) O O (by simp) (cfa (by simp[aJ])<|cfa (by simp[aJ])<|cfn) (ae (aZ 2 O) sz3 ag3 O O (v:=iZ f.Top) O<|dC (vs:=[ak f,eL AV.bool r,iZ failed,iZ f.Top]) O (vZ<|vZ<|vZ<|vZ<|vn) (λ_=>xF hc1 (λ_ hr=>⟨by rw[hr],rfl⟩)) O<|dP O O<|aW (v:=.bool r1) O<|dN<|uZ<|gv1 hrg<|hQ _ h)))
end Go.Proofs.YtnjgdkfhgmebjaaGreat
namespace Go.Proofs.YtnjgdkfhgmebjaaGreat
open Go.Gg
set_option maxRecDepth 100000
variable {S:St} {R:AV->St->Prop}
theorem pR {events:Int} {phases:Int} {Q:List (List Int)->Prop} (h:jh events phases Q) (hQ:∀r1,Q r1->R (eL bd r1) S) :
  Ctr Tryz.prog 93 [iZ events,iZ phases] S R:=by
 refine aH Tryz.func93 rfl Tryz.ntmps93 Tryz.results93 krZ (λrg hrg=>?_)
 refine ah<|asZ .nil O<|aV<|wZ rg<|bq lx EJ AG (es:=[.nil]) O (kk:=1) O O O O O O (λg1=>d6 (EWk.ow (k:=11) (o':=.arr 1 (List.map bd [[]])) O<|OW.all<|H_ (VWL.vwc (a:=.nil) (b:=bd [])<|vl' (VW.nilL)<|vn)<|H9)<|asZ (.sl 1 rg 11 g1 0 1) O<|nZ<|qZ<|ah<|asZ (iZ 0) O<|nZ<|bZ<|BP (bo (k:=11) (xs:=List.map bd [[]]) O (es:=[(0,iZ events),(1,iZ phases),(5,eL bd [[]]),(6,iZ 0)]) (fZ<|fZ<|fc (be lzZ)<|fZ<|fn) (m:=[]) (sn)) (lpZ h (λy=>a8 [(0,iZ events),(1,iZ phases),(5,eL bd y.1),(6,iZ y.2)]) (λy=>stL S rg []) (canon (aN<|fn)<|sn) (λy _ h=>?_)))
 obtain⟨out,i⟩:=y
 refine qZ<|ah<|mvZ (iZ i) O<|mvZ (iZ events) O<|ac<|bg O O<|nZ<|cZ h O (λhb h=>?_) (λhb h=>?_)
 ·refine kZ<|qZ<|bZ<|ah<|asZ .nil O<|nZ<|qZ<|ah<|asZ (iZ 0) O<|nZ<|bZ<|Vc.mat 7 40 1 O dZ (λg2=>lgZ h g2 (λy=>a8 [(0,iZ events),(1,iZ phases),(5,eL bd out),(6,iZ i),(7,.sl 1 rg 40 y.2 0 y.1.2.length),(8,iZ y.1.1)]) (λy=>stL S rg [(40,.arr 1 (List.map bd y.1.2),y.2)]) (canon (aN<|fc (VW.slen lzZ)<|fZ<|fn)<|sc O<|sn) (λy _ h=>?_))
  obtain⟨⟨k1,next2⟩,g3⟩:=y
  refine qZ<|ah<|mvZ (iZ k1) O<|mvZ (eL bd out) O<|ac<|aI lx O<|ac<|bg O O<|nZ<|cZ h O (λhb1 h=>?_) (λhb1 h=>?_)
  ·refine kZ<|qZ<|bZ<|ah<|asZ (iZ 0) O<|nZ<|bZ<|lgZ h g3 (λy=>a8 [(0,iZ events),(1,iZ phases),(5,eL bd out),(6,iZ i),(7,.sl 1 rg 40 y.2 0 y.1.2.length),(8,iZ k1),(9,iZ y.1.1)]) (λy=>stL S rg [(40,.arr 1 (List.map bd y.1.2),y.2)]) (canon (aN<|fZ<|fZ<|fZ<|fn)<|sc O<|sn) (λy _ h=>?_)
   obtain⟨⟨j,next4⟩,g4⟩:=y
   refine qZ<|ah<|mvZ (iZ j) O<|mvZ (iZ phases) O<|ac<|oU O O<|nZ<|cZ h O (λhb2 h=>?_) (λhb2 h=>?_)
   ·refine kZ<|qZ<|bZ<|ah<|asZ .nil O<|aV<|mvZ .nil O<|mvZ (eL bd out) O<|mvZ (iZ k1) O<|tkZ h (λhg h=>ac<|aQ lx dl dZ (λ_=>O) O O hg<|ac<|aG dl fR O O (v:=bd (at' out k1)) O<|tkZ h (λhg1 h=>wZ rg<|xL bA l8 ok3 ff (xs:=(at' out k1)) (enc:=iZ) (O) (kk:=1) O O (λ_=>O) (λ_=>O) hg1 O (λg5=>asZ (.sl 1 rg 33 g5 0<|(at' out k1).length) O<|nZ<|rZ<|mvZ (.sl 1 rg 40 g4 0 next4.length) O<|mvZ (.sl 1 rg 33 g5 0<|(at' out k1).length) O<|mvZ (iZ j) O<|wZ rg<|bq bA ok3 ff (es:=[iZ j]) O (kk:=1) O O O O O O (λg6=>tkZ h (λhg2 h=>wZ rg<|cr bA l8 ok3 ff (es:=(at' out k1)) (xs:=[j]) (enc:=iZ) (aZ 33 O) lzZ (bz (aZ 37 O) lzZ) (kk:=1) O O (λ_=>O) (λ_=>O) hg2 O (λ_=>aS) (λg7=>d6 (bo (k:=33) (xs:=List.map iZ ((at' out k1)++[j])) O (es:=[(0,iZ events),(1,iZ phases),(5,eL bd out),(6,iZ i),(8,iZ k1),(9,iZ j),(34,.sl 1 rg 40 g4 0 next4.length),(38,bd ((at' out k1)++[j]))]) (aN<|fZ<|fZ<|fc (eu O)<|fc (be O)<|fn) (m:=[(40,.arr 1 (List.map bd next4),g4)]) (sc O<|sn)) (wZ rg<|bq lx EJ AG (es:=[bd ((at' out k1)++[j])]) O (kk:=1) O O O O O O (λg9=>tkZ h (λhg3 h=>?_)))))))))
    exact wZ rg<|cr lx FL EJ AG (es:=next4) (xs:=[((at' out k1)++[j])]) (enc:=bd) (aZ 40 O) lzZ (bz (aZ 39 O) lzZ) (kk:=1) O O (λ_=>O) (λ_=>O) hg3 O (λ_=>aS) (λg10=>asZ (.sl 1 rg 40 g10 0<|(next4++[((at' out k1)++[j])]).length) O (nZ<|rZ<|mvZ (iZ j) O<|tkZ h (λhg4 h=>ac<|aC O O hg4<|asZ (iZ<|j+1) O<|nZ<|⟨(((j+1),(next4++[((at' out k1)++[j])])),g10),(canon (aN<|fZ<|fZ<|fZ<|fn)<|sc O<|sn),h⟩)))
   exact xsZ<|rZ<|mvZ (iZ k1) O<|tkZ h (λhg5 h=>ac<|aC O O hg5<|asZ (iZ<|k1+1) O<|nZ<|⟨(((k1+1),next4),g4),(canon (aN<|fZ<|fZ<|fn)<|sc O<|sn),h⟩)
  exact xsZ<|rZ<|mvZ (.sl 1 rg 40 g3 0 next2.length) O<|asZ (.sl 1 rg 40 g3 0 next2.length) O<|nZ<|rZ<|mvZ (iZ i) O<|tkZ h (λhg6 h=>ac<|aC O O hg6<|asZ (iZ<|i+1) O<|nZ<|⟨(next2,(i+1)),(EWk.trans (bo (k:=40) (xs:=List.map bd next2) O (es:=[(0,iZ events),(1,iZ phases),(5,eL bd next2),(6,iZ (i+1))]) (fZ<|fZ<|fc (be O)<|fZ<|fn) (m:=[]) (sn)) (canon (aN<|fn)<|sn)),h⟩)
 exact xsZ<|ah<|mvZ (eL bd out) O<|asZ (eL bd out) O<|aF<|gv1 hrg<|hQ _ h
theorem sC {h1:List Int} {j:Int} {Q:Int->Prop} (h:lH h1 j Q) (hQ:∀r1,Q r1->R (iZ r1) S) :
  Ctr Tryz.prog 170 [bd h1,iZ j] S R:=by
 refine aH Tryz.func170 rfl Tryz.ntmps170 Tryz.results170 krZ (λrg hrg=>?_)
 refine ah<|asZ (iZ 0) O<|aV<|asZ (iZ 0) O<|nZ<|qZ<|ah<|asZ (iZ 0) O<|nZ<|bZ<|lpZ h (λy=>a8 [(0,bd h1),(1,iZ j),(5,iZ y.1),(6,iZ y.2)]) (λy=>stL S rg []) (canon (aN<|fn)<|sn) (λy _ h=>?_)
 obtain⟨out,i⟩:=y
 refine qZ<|ah<|mvZ (iZ i) O<|mvZ (bd h1) O<|ac<|aI bA O<|ac<|bg O O<|nZ<|cZ h O (λhb h=>?_) (λhb h=>?_)
 ·refine kZ<|qZ<|bZ<|ah<|mvZ (bd h1) O<|mvZ (iZ i) O<|tkZ h (λhg h=>ac<|aQ bA sz3 dZ (λ_=>O) O O hg<|ac<|aG sz3 ag3 O O (v:=iZ (at' h1 i)) O<|mvZ (iZ j) O<|ac<|oU O O<|nZ<|cZ h O (λhb1 h=>?_) (λhb1 h=>?_))
  ·exact rZ<|mvZ (iZ out) O<|mvZ (iZ i) O<|tkZ h (λhg1 h=>ac<|z_ O O hg1<|ac<|vt O O<|asZ (iZ<|bits .or .i64 out<|1*2^(Int.toNat i)) O<|nZ<|rZ<|mvZ (iZ i) O<|tkZ h (λhg2 h=>ac<|aC O O hg2<|asZ (iZ<|i+1) O<|nZ<|⟨((bits .or .i64 out<|1*2^(Int.toNat i)),(i+1)),(canon (aN<|fn)<|sn),h⟩))
  exact kZ<|rZ<|mvZ (iZ i) O<|tkZ h (λhg3 h=>ac<|aC O O hg3<|asZ (iZ<|i+1) O<|nZ<|⟨(out,(i+1)),(canon (aN<|fn)<|sn),h⟩)
 exact xsZ<|ah<|mvZ (iZ out) O<|asZ (iZ out) O<|aF<|gv1 hrg<|hQ _ h
theorem tS {m:GMission} {h1:List Int} {Q:Int->Prop} (h:mP m h1 Q) (hQ:∀r1,Q r1->R (iZ r1) S) :
  Ctr Tryz.prog 94 [ar m,bd h1] S R:=by
 refine aH Tryz.func94 rfl Tryz.ntmps94 Tryz.results94 krZ (λrg hrg=>?_)
 refine ah<|wZ rg<|bx (v:=ar m) O O (kk:=2) O dZ (λg1=>asZ (iZ 0) O<|nZ<|qZ<|ah<|asZ (iZ 0) O<|nZ<|bZ<|lpZ h (λy=>a8 [(1,bd h1),(2,.ptr rg 2 g1 0 0),(5,iZ y)]) (λy=>stL S rg [(2,.arr 2 [ar m],g1)]) (canon (fZ<|fZ<|fZ<|fn)<|sc O<|sn) (λj _ h=>qZ<|ah<|mvZ (iZ j) O<|ac<|aD ck O<|ac<|ae (aZ 2 O) fi fA O O (v:=eL ak m.Phases) O<|ac<|aI ez O<|ac<|bg O O<|nZ<|cZ h O (λhb h=>?_) (λhb h=>?_)))
 ·refine kZ<|qZ<|bZ<|qZ<|tkZ h (λhg h=>?_)
  obtain⟨r,hc,h⟩:=h
  obtain⟨r1,hc1,h⟩:=h
  refine Vc.drawn' bC rg (fh [(7,pc (iZ r)),(8,pc (.bool r1))]) krZ<|dP O O<|aD ck O<|dL (E:=([(rg,2)],[])) O O (by simp) (cfn) (ae (aZ 2 O) fi fA O O (v:=eL ak m.Phases) O<|dP O O<|aA (v:=iZ j) O<|dP O O<|aQ ez b9 dZ (λ_=>O) O O hg<|dP O O<|b_ b9 dZ eH O O (v:=ak (at' m.Phases j)) O<|dP O O<|aA (v:=bd h1) O<|dP O O<|aA (v:=iZ j) O<|dC (vs:=[bd h1,iZ j]) O (vZ<|vZ<|vn) (λ_=>sC hc (λ_ hr=>⟨by rw[hr],rfl⟩)) O<|dC (vs:=[ak (at' m.Phases j),iZ r]) O (vZ<|vZ<|vn) (λ_=>tT hc1 (λ_ hr=>⟨by rw[hr],rfl⟩)) O<|dN<|cZ h O (λhb1 h=>?_) (λhb1 h=>?_))
  ·exact ah<|mvZ (iZ j) O<|asZ (iZ j) O<|aF<|gv1 hrg<|hQ _ h
  exact kZ<|rZ<|mvZ (iZ j) O<|tkZ h (λhg1 h=>ac<|aC O O hg1<|asZ (iZ<|j+1) O<|nZ<|⟨(j+1),(canon (fZ<|fZ<|fZ<|fn)<|sc O<|sn),h⟩)
 exact xsZ<|ah<|ac<|aD ck O<|ac<|ae (aZ 2 O) fi fA O O (v:=eL ak m.Phases) O<|ac<|aI ez O<|asZ (iZ (m.Phases.length:Int)) O<|aF<|gv1 hrg<|hQ _ h
theorem sA {m:GMission} {h1:List Int} {Q:GRat->Prop} (h:lF m h1 Q) (hQ:∀r1,Q r1->R (aq r1) S) :
  Ctr Tryz.prog 95 [ar m,bd h1] S R:=by
 refine aH Tryz.func95 rfl Tryz.ntmps95 Tryz.results95 krZ (λrg hrg=>?_)
 refine ah<|wZ rg<|bx (v:=ar m) O O (kk:=2) O dZ (λg1=>wZ rg<|aU bN dz (kk:=3) O (λg2=>aV<|ac<|clZ O<|nO h λr h=>wZ rg<|aU bN dz (kk:=3) O (λg3=>ac<|ay (aZ 5 O) a_ dZ O (w:=aq r) O O O (v:=aq r) O aS<|nZ<|qZ<|ah<|asZ (iZ 0) O<|nZ<|bZ<|lpZ h (λy=>a8 [(1,bd h1),(2,.ptr rg 2 g1 0 0),(4,.ptr rg 4 g2 0 0),(5,.ptr rg 5 g3 0 0),(6,iZ y.1)]) (λy=>stL S rg [(2,.arr 2 [ar m],g1),(4,.arr 3 [.agg [.bool false,.nil,.nil]],g2),(5,.arr 3 [aq y.2],g3)]) (canon (aN<|fZ<|fn)<|sc O<|sc O<|sc O<|sn) (λy _ h=>?_))))
 obtain⟨i,x⟩:=y
 refine qZ<|ah<|mvZ (iZ i) O<|mvZ (bd h1) O<|ac<|aI bA O<|ac<|bg O O<|nZ<|cZ h O (λhb h=>?_) (λhb h=>?_)
 ·refine kZ<|qZ<|bZ<|qZ<|ah<|asZ (iZ 0) O<|nZ<|bZ<|lpZ h (λy=>a8 [(1,bd h1),(2,.ptr rg 2 g1 0 0),(4,.ptr rg 4 g2 0 0),(5,.ptr rg 5 g3 0 0),(6,iZ i),(7,iZ y.1)]) (λy=>stL S rg [(2,.arr 2 [ar m],g1),(4,.arr 3 [.agg [.bool false,.nil,.nil]],g2),(5,.arr 3 [aq y.2],g3)]) (canon (aN<|fZ<|fZ<|fn)<|sc O<|sc O<|sc O<|sn) (λy _ h=>?_)
  obtain⟨k1,x1⟩:=y
  refine qZ<|ah<|mvZ (iZ k1) O<|mvZ (bd h1) O<|mvZ (iZ i) O<|tkZ h (λhg h=>ac<|aQ bA sz3 dZ (λ_=>O) O O hg<|ac<|aG sz3 ag3 O O (v:=iZ (at' h1 i)) O<|ac<|bg O O<|nZ<|cZ h O (λhb1 h=>?_) (λhb1 h=>?_))
  ·refine kZ<|qZ<|bZ ?_
   obtain⟨r1,hc,h⟩:=h
   refine tkZ h (λhg1 h=>tkZ h (λhg2 h=>?_))
   obtain⟨r2,hc1,h⟩:=h
   obtain⟨r3,hc2,h⟩:=h
   exact Vc.drawn' bC rg (fh [(1,pc (aq r1)),(10,pc (aq r2)),(11,pc (aq r3))]) krZ<|dL (E:=([(rg,5)],[])) O O (by simp) (cfn) (aw (aZ 5 O) a_ dZ bK O O (v:=aq x1) O<|dC (vs:=[iZ 1]) O (vZ<|vn) (λ_=>nO hc (λ_ hr=>⟨by rw[hr],rfl⟩)) O<|dP O O<|aD cX O<|dL (E:=([(rg,2)],[])) O O (by simp) (cfa (by simp[aJ])<|cfn) (ae (aZ 2 O) gK iH O O (v:=eL (eL aq) m.P) O<|dP O O<|aA (v:=iZ i) O<|dP O O<|aQ gf hH dZ (λ_=>O) O O hg1<|dP O O<|aG hH ph O O (v:=eL aq (at' m.P i)) O<|dP O O<|aA (v:=iZ k1) O<|dP O O<|aQ d7 a_ dZ (λ_=>O) O O hg2<|dP O O<|b_ a_ dZ bK O O (v:=aq (at' (at' m.P i) k1)) O (dC (vs:=[aq r1,aq (at' (at' m.P i) k1)]) O (vZ<|vZ<|vn) (λ_=>p8 hc1 (λ_ hr=>⟨by rw[hr],rfl⟩)) O<|dC (vs:=[aq x1,aq r2]) O (vZ<|vZ<|vn) (λ_=>p9 hc2 (λ_ hr=>⟨by rw[hr],rfl⟩)) O<|dL (E:=([],[(rg,5)])) O O (by simp) (cfo krZ<|cfo krZ<|cfn) (ay (aZ 5 O) a_ dZ O (w:=aq r3) O O O (v:=aq r3) O aS<|dN<|rZ<|mvZ (iZ k1) O<|tkZ h (λhg3 h=>ac<|aC O O hg3<|asZ (iZ<|k1+1) O<|nZ<|⟨((k1+1),r3),(canon (aN<|fZ<|fZ<|fn)<|sc O<|sc O<|sc O<|sn),h⟩)))))
  refine xsZ<|qZ<|tkZ h (λhg4 h=>Vc.drawn' bC rg (λ_=>fz) krZ<|dP O O<|aA (v:=bd h1) O<|dP O O<|aA (v:=iZ i) O<|dP O O<|aQ bA sz3 dZ (λ_=>O) O O hg4<|dP O O<|aG sz3 ag3 O O (v:=iZ (at' h1 i)) O<|dP O O<|aD ck O<|dL (E:=([(rg,2)],[])) O O (by simp) (cfn) (ae (aZ 2 O) fi fA O O (v:=eL ak m.Phases) O<|dP O O<|aI ez O<|dP O O<|bg O O<|dN<|cZ h O (λhb2 h=>?_) (λhb2 h=>?_)))
  ·refine tkZ h (λhg5 h=>tkZ h (λhg6 h=>tkZ h (λhg7 h=>?_)))
   obtain⟨r4,hc3,h⟩:=h
   exact Vc.drawn' bC rg (fh [(12,pc (aq r4))]) krZ<|dL (E:=([(rg,5)],[])) O O (by simp) (cfn) (aw (aZ 5 O) a_ dZ bK O O (v:=aq x1) O<|dP O O<|aD cX O<|dL (E:=([(rg,2)],[])) O O (by simp) (cfa (by simp[aJ])<|cfn) (ae (aZ 2 O) gK iH O O (v:=eL (eL aq) m.P) O<|dP O O<|aA (v:=iZ i) O<|dP O O<|aQ gf hH dZ (λ_=>O) O O hg5<|dP O O<|aG hH ph O O (v:=eL aq (at' m.P i)) O<|dP O O<|aA (v:=bd h1) O<|dP O O<|aA (v:=iZ i) O<|dP O O<|aQ bA sz3 dZ (λ_=>O) O O hg6<|dP O O<|aG sz3 ag3 O O (v:=iZ (at' h1 i)) O<|dP O O<|aQ d7 a_ dZ (λ_=>O) O O hg7<|dP O O<|b_ a_ dZ bK O O (v:=aq (at' (at' m.P i)<|at' h1 i)) O (dC (vs:=[aq x1,aq (at' (at' m.P i)<|at' h1 i)]) O (vZ<|vZ<|vn) (λ_=>p9 hc3 (λ_ hr=>⟨by rw[hr],rfl⟩)) O<|dL (E:=([],[(rg,5)])) O O (by simp) (cfo krZ<|cfo krZ<|cfn) (ay (aZ 5 O) a_ dZ O (w:=aq r4) O O O (v:=aq r4) O aS<|dN<|rZ<|mvZ (iZ i) O<|tkZ h (λhg8 h=>ac<|aC O O hg8<|asZ (iZ<|i+1) O<|nZ<|⟨((i+1),r4),(canon (aN<|fZ<|fn)<|sc O<|sc O<|sc O<|sn),h⟩)))))
  exact kZ<|rZ<|mvZ (iZ i) O<|tkZ h (λhg9 h=>ac<|aC O O hg9<|asZ (iZ<|i+1) O<|nZ<|⟨((i+1),x1),(canon (aN<|fZ<|fn)<|sc O<|sc O<|sc O<|sn),h⟩)
 exact xsZ<|ah<|ac<|aw (aZ 5 O) a_ dZ bK O O (v:=aq x) O<|ac<|ay (aZ 4 O) a_ dZ O (w:=aq x) O O O (v:=aq x) O aS<|aF<|bh (aZ 4 O) a_ dZ bK O O (v:=aq x) O<|aK<|goZ hrg<|hQ _ h
end Go.Proofs.YtnjgdkfhgmebjaaGreat
namespace Go.Proofs.YtnjgdkfhgmebjaaGreat
open Go.Gg
set_option maxRecDepth 100000
variable {S:St} {R:AV->St->Prop}
theorem pQ {m:GMission} {Q:List GRat->Prop} (h:jg m Q) (hQ:∀r1,Q r1->R (eL aq r1) S) :
  Ctr Tryz.prog 32 [ar m] S R:=by
 refine aH Tryz.func32 rfl Tryz.ntmps32 Tryz.results32 krZ (λrg hrg=>?_)
 refine ah<|wZ rg<|bx (v:=ar m) O O (kk:=2) O dZ (λg1=>asZ .nil O<|aV<|ac<|aD ck O<|ac<|ae (aZ 1 O) fi fA O O (v:=eL ak m.Phases) O<|ac<|aI ez O<|tkZ h (λhg h=>wZ rg<|rn d7 tH dz bN (kk:=3) O O O hg (λg2=>d6 (EWk.ow (k:=10) (o':=.arr 3 (List.map aq<|bS (m.Phases.length:Int) (⟨false,[],[]⟩:GRat))) O (OW.rep<|VWL.vwc<|vZ<|vl' (VW.nilL)<|vl' (VW.nilL)<|vn)) (asZ (.sl 3 rg 10 g2 0<|Int.toNat (m.Phases.length:Int)) O<|nZ<|qZ ?_))))
 obtain⟨r,hc,h⟩:=h
 obtain⟨l,hc1,h⟩:=h
 refine Vc.drawn' bC rg (fh [(1,pc (iZ r)),(5,pc (eL bd l))]) krZ<|dL (E:=([(rg,1)],[])) O O (by simp) (cfn) (aw (aZ 1 O) dp dZ eR O O (v:=ar m) O<|dC (vs:=[ar m]) O (vZ<|vn) (λ_=>dH hc (λ_ hr=>⟨by rw[hr],rfl⟩)) O<|dP O O<|aD ck O<|dL (E:=([(rg,1)],[])) O O (by simp) (cfa (by simp[aJ])<|cfn) (ae (aZ 1 O) fi fA O O (v:=eL ak m.Phases) O<|dP O O<|aI ez O<|dC (vs:=[iZ r,iZ (m.Phases.length:Int)]) O (vZ<|vZ<|vn) (λ_=>pR hc1 (λ_ hr=>⟨by rw[hr],rfl⟩)) O<|dP O O<|aW (v:=eL bd l) O<|dN<|qZ<|ah<|asZ (iZ 0) O<|nZ<|bZ<|lpZ h (λy=>a8 [(1,.ptr rg 1 g1 0 0),(3,.sl 3 rg 10 g2 0 y.2.length),(4,eL bd l),(5,iZ y.1)]) (λy=>stL S rg [(1,.arr 2 [ar m],g1),(10,.arr 3 (List.map aq y.2),g2)]) (canon (fZ<|fc (VW.slen lzZ)<|fZ<|fZ<|fn)<|sc O<|sc O<|sn) (λy _ h=>?_)))
 obtain⟨i,out⟩:=y
 refine qZ<|ah<|mvZ (iZ i) O<|mvZ (eL bd l) O<|ac<|aI lx O<|ac<|bg O O<|nZ<|cZ h O (λhb h=>?_) (λhb h=>?_)
 ·refine kZ<|qZ<|bZ<|qZ<|tkZ h (λhg1 h=>?_)
  obtain⟨j,hc2,h⟩:=h
  refine Vc.drawn' bC rg (fh [(5,pc (iZ j))]) krZ<|dL (E:=([(rg,1)],[])) O O (by simp) (cfn) (aw (aZ 1 O) dp dZ eR O O (v:=ar m) O<|dP O O<|aA (v:=eL bd l) O<|dP O O<|aA (v:=iZ i) O<|dP O O<|aQ lx dl dZ (λ_=>O) O O hg1<|dP O O<|aG dl fR O O (v:=bd (at' l i)) O<|dC (vs:=[ar m,bd (at' l i)]) O (vZ<|vZ<|vn) (λ_=>tS hc2 (λ_ hr=>⟨by rw[hr],rfl⟩)) O<|dP O O<|aW (v:=iZ j) O<|dN<|ah<|mvZ (iZ j) O<|ac<|aD ck O<|ac<|ae (aZ 1 O) fi fA O O (v:=eL ak m.Phases) O<|ac<|aI ez O<|ac<|bg O O<|nZ<|cZ h O (λhb1 h=>?_) (λhb1 h=>?_))
  ·refine tkZ h (λhi h=>tkZ h (λhg2 h=>?_))
   obtain⟨r1,hc3,h⟩:=h
   obtain⟨r2,hc4,h⟩:=h
   exact tkZ h (λhi1 h=>Vc.drawn' bC rg (fh [(11,pc (aq r1)),(12,pc (aq r2))]) krZ<|dP O O<|aA (v:=.sl 3 rg 10 g2 0 out.length) O<|dP O O<|aA (v:=iZ j) O<|dP O O<|aA (v:=.sl 3 rg 10 g2 0 out.length) O<|dP O O<|aA (v:=iZ j) O<|dP O O<|bm d7 a_ dZ O O hi<|dL (E:=([(rg,10)],[])) O O (by simp) (cfn) (oT (aZ 10 O) a_ dZ bK O (bM hi lzZ) O (v:=aq (at' out j)) O<|dL (E:=([(rg,1)],[])) O O (by simp) (cfa (by simp[aJ])<|cfn) (aw (aZ 1 O) dp dZ eR O O (v:=ar m) O<|dP O O<|aA (v:=eL bd l) O<|dP O O<|aA (v:=iZ i) O<|dP O O<|aQ lx dl dZ (λ_=>O) O O hg2<|dP O O<|aG dl fR O O (v:=bd (at' l i)) O<|dC (vs:=[ar m,bd (at' l i)]) O (vZ<|vZ<|vn) (λ_=>sA hc3 (λ_ hr=>⟨by rw[hr],rfl⟩)) O<|dC (vs:=[aq (at' out j),aq r1]) O (vZ<|vZ<|vn) (λ_=>mT hc4 (λ_ hr=>⟨by rw[hr],rfl⟩)) O<|dP O O<|bm d7 a_ dZ O O hi1<|dL (E:=([],[(rg,10)])) O O (by simp) (cfo krZ<|cfo krZ<|cfn) (w5 (aZ 10 O) a_ dZ (x':=r2) (λ_=>O) O O (bM hi1 lzZ) O O aS<|dN<|rZ<|mvZ (iZ i) O<|tkZ h (λhg3 h=>ac<|aC O O hg3<|asZ (iZ<|i+1) O<|nZ<|⟨((i+1),(bw out j r2)),(canon (fZ<|fc (VW.slen lzZ)<|fZ<|fZ<|fn)<|sc O<|sc O<|sn),h⟩)))))
  exact kZ<|rZ<|mvZ (iZ i) O<|tkZ h (λhg4 h=>ac<|aC O O hg4<|asZ (iZ<|i+1) O<|nZ<|⟨((i+1),out),(canon (aN<|fn)<|sc O<|sc O<|sn),h⟩)
 exact xsZ<|ah<|mvZ (.sl 3 rg 10 g2 0 out.length) O<|asZ (.sl 3 rg 10 g2 0 out.length) O<|aF<|aE (v:=.sl 3 rg 10 g2 0 out.length) O<|aK<|br (k:=10) (xs:=List.map aq out) O (v':=eL aq out) (be O)<|goZ hrg<|hQ _ h
end Go.Proofs.YtnjgdkfhgmebjaaGreat
namespace Go.Proofs.YtnjgdkfhgmebjaaGreat
open Go.Gg
set_option maxRecDepth 100000
variable {S:St} {R:AV->St->Prop}
theorem tR {m:GMission} {Q:GRat->Prop} (h:mO m Q) (hQ:∀r1,Q r1->R (aq r1) S) :
  Ctr Tryz.prog 37 [ar m] S R:=by
 refine aH Tryz.func37 rfl Tryz.ntmps37 Tryz.results37 krZ (λrg hrg=>?_)
 refine ah<|wZ rg<|bx (v:=ar m) O O (kk:=2) O dZ (λg1=>wZ rg<|aU bN dz (kk:=3) O (λg2=>aV<|ac<|bG nf bN kr j7 a_ (ps:=[]) O O (v:=.agg [.bool false,.nil,.nil]) O<|ac<|aw (aZ 1 O) dp dZ eR O O (v:=ar m) O<|ac<|clZ O<|pQ h λl h=>wZ rg<|aU bN dz (kk:=3) O (λg3=>ac<|ay (aZ 3 O) a_ dZ O (w:=.agg [.bool false,.nil,.nil]) O O O (v:=.agg [.bool false,.nil,.nil]) O aS<|asZ (eL aq l) O<|nZ<|qZ<|ah<|asZ (iZ 0) O<|nZ<|bZ<|lpZ h (λy=>a8 [(2,.ptr rg 2 g2 0 0),(3,.ptr rg 3 g3 0 0),(4,eL aq l),(5,iZ y.1)]) (λy=>stL S rg [(2,.arr 3 [.agg [.bool false,.nil,.nil]],g2),(3,.arr 3 [aq y.2],g3)]) (EWk.trans (EWk.ow (k:=3) (o':=.arr 3 [aq (⟨false,[],[]⟩:GRat)]) O<|OW.one<|VWL.vwc<|vZ<|vl' (VW.nilL)<|vl' (VW.nilL)<|vn)<|canon (aN<|fn)<|sc O<|sc O<|sn) (λy _ h=>?_))))
 obtain⟨i,x⟩:=y
 refine qZ<|ah<|mvZ (iZ i) O<|mvZ (eL aq l) O<|ac<|aI d7 O<|ac<|bg O O<|nZ<|cZ h O (λhb h=>?_) (λhb h=>?_)
 ·refine kZ<|qZ<|bZ<|tkZ h (λhg h=>?_)
  obtain⟨r,hc,h⟩:=h
  exact Vc.drawn' bC rg (fh [(5,pc (aq r))]) krZ<|dL (E:=([(rg,3)],[])) O O (by simp) (cfn) (aw (aZ 3 O) a_ dZ bK O O (v:=aq x) O<|dP O O<|aA (v:=eL aq l) O<|dP O O<|aA (v:=iZ i) O<|dP O O<|aQ d7 a_ dZ (λ_=>O) O O hg<|dP O O<|b_ a_ dZ bK O O (v:=aq (at' l i)) O<|dC (vs:=[aq x,aq (at' l i)]) O (vZ<|vZ<|vn) (λ_=>mT hc (λ_ hr=>⟨by rw[hr],rfl⟩)) O<|dL (E:=([],[(rg,3)])) O O (by simp) (cfo krZ<|cfn) (ay (aZ 3 O) a_ dZ O (w:=aq r) O O O (v:=aq r) O aS<|dN<|rZ<|mvZ (iZ i) O<|tkZ h (λhg1 h=>ac<|aC O O hg1<|asZ (iZ<|i+1) O<|nZ<|⟨((i+1),r),(canon (aN<|fn)<|sc O<|sc O<|sn),h⟩)))
 exact xsZ<|ah<|ac<|aw (aZ 3 O) a_ dZ bK O O (v:=aq x) O<|ac<|ay (aZ 2 O) a_ dZ O (w:=aq x) O O O (v:=aq x) O aS<|aF<|bh (aZ 2 O) a_ dZ bK O O (v:=aq x) O<|aK<|goZ hrg<|hQ _ h
end Go.Proofs.YtnjgdkfhgmebjaaGreat
namespace Go.Proofs.YtnjgdkfhgmebjaaGreat
open Go.Gg
set_option maxRecDepth 100000
variable {S:St} {R:AV->St->Prop}
theorem tQ {m:GMission} {j:Int} {Q:GMission->Prop} (h:mN m j Q) (hQ:∀r1,Q r1->R (ar r1) S) :
  Ctr Tryz.prog 49 [ar m,iZ j] S R:=by
 refine aH Tryz.func49 rfl Tryz.ntmps49 Tryz.results49 krZ (λrg hrg=>?_)
 refine ah<|wZ rg<|bx (v:=ar m) O O (kk:=2) O dZ (λg1=>wZ rg<|aU od y5 (kk:=2) O (λg2=>aV<|ac<|bG BT od BJ AP dp (ps:=[]) O O (v:=.agg [.nil,.nil]) O<|wZ rg<|aU od y5 (kk:=2) O (λg3=>ac<|ay (aZ 5 O) dp dZ O (w:=.agg [.nil,.nil]) O O O (v:=.agg [.nil,.nil]) O aS<|nZ<|qZ<|tkZ h (λhg h=>tkZ h (λhg1 h=>tkZ h (λhg2 h=>Vc.drawn' bC rg (λ_=>fz) krZ<|dP O O<|aD ck O<|dL (E:=([(rg,5)],[])) O O (by simp) (cfn) (ae (aZ 5 O) fi fA O O (v:=.nil) O<|dP O O<|aD ck O<|dL (E:=([(rg,2)],[])) O O (by simp) (cfa (by simp[aJ])<|cfn) (ae (aZ 2 O) fi fA O O (v:=eL ak m.Phases) O<|dP O O<|aA (v:=iZ j) O<|dP O O<|aC O O hg<|dP O O<|gR ez b9 dZ (λ_=>O) O (l:=0) (h:=(j+1)) O O hg1<|dL (E:=([],[(rg,16)])) O O (by simp) (cfo krZ<|cfo krZ<|cfn) (xL ez FN m4 eS (xs:=(bH m.Phases 0<|j+1)) (enc:=ak) (O) (kk:=3) O O (λ_=>O) (λ_=>O) hg2 O (λg4=>dP O O<|aD ck O<|dL (E:=([],[(rg,5)])) O O (by simp) (cfo krZ<|cfo krZ<|cfo krZ<|cfn) (ay (aZ 5 O) fi dZ O (w:=.sl 3 rg 16 g4 0 ((bH m.Phases 0<|j+1).length)) O O O (v:=.agg [.sl 3 rg 16 g4 0 ((bH m.Phases 0<|j+1).length),.nil]) O aS (dN<|qZ<|ah<|asZ (iZ 0) O<|nZ<|bZ ?_))))))))))))
 refine Vc.matB 5 1 38 1 (b:=λg5=>.agg [.sl 3 rg 16 g4 0 ((bH m.Phases 0<|j+1).length),.sl 1 rg 38 g5 0 0]) O O dZ dZ O (λg5=>lgZ h g5 (λy=>a8 [(1,iZ j),(2,.ptr rg 2 g1 0 0),(4,.ptr rg 4 g2 0 0),(5,.ptr rg 5 g3 0 0),(6,iZ y.1.1)]) (λy=>stL S rg [(2,.arr 2 [ar m],g1),(4,.arr 2 [.agg [.nil,.nil]],g2),(5,.arr 2 [.agg [.sl 3 rg 16 g4 0 ((bH m.Phases 0<|j+1).length),.sl 1 rg 38 y.2 0 y.1.2.length]],g3),(16,.arr 3 (List.map ak<|bH m.Phases 0<|j+1),g4),(38,.arr 1 (List.map (eL aq) y.1.2),y.2)]) (EWk.trans (EWk.ow (k:=5) (o':=.arr 2 [.agg [.sl 3 rg 16 g4 0 ((bH m.Phases 0<|j+1).length),.sl 1 rg 38 g5 0 ([].length)]]) O (OW.one<|VWL.vwc<|vZ<|vl' (VW.slen lzZ)<|vn)) (canon (aN<|fZ<|fn)<|cB O O O O<|sc O<|sn)) (λy _ h=>?_))
 obtain⟨⟨i,x⟩,g6⟩:=y
 refine qZ<|ah<|mvZ (iZ i) O<|ac<|aD cX O<|ac<|ae (aZ 2 O) gK iH O O (v:=eL (eL aq) m.P) O<|ac<|aI gf O<|ac<|bg O O<|nZ<|cZ h O (λhb h=>?_) (λhb h=>?_)
 ·refine kZ<|qZ<|bZ<|ah<|asZ .nil O<|nZ<|tkZ h (λhg3 h=>tkZ h (λhg4 h=>tkZ h (λhg5 h=>tkZ h (λhg6 h=>tkZ h (λhg7 h=>Vc.drawn' bC rg (fh [(11,plv (eL aq<|bH (at' m.P i) 0<|j+1))]) krZ<|dP O O<|aD cX O<|dL (E:=([(rg,5)],[])) O O (by simp) (cfn) (ae (aZ 5 O) gK iH O O (v:=.sl 1 rg 38 g6 0 x.length) O<|dP O O<|aA (v:=.nil) O<|dP O O<|aD cX O<|dL (E:=([(rg,2)],[])) O O (by simp) (cfa (by simp[aJ])<|cfn) (ae (aZ 2 O) gK iH O O (v:=eL (eL aq) m.P) O<|dP O O<|aA (v:=iZ i) O<|dP O O<|aQ gf hH dZ (λ_=>O) O O hg3<|dP O O<|aG hH ph O O (v:=eL aq (at' m.P i)) O<|dP O O<|aA (v:=iZ j) O<|dP O O<|aC O O hg4<|dP O O<|gR d7 a_ dZ (λ_=>O) O (l:=0) (h:=(j+1)) O O hg5<|dAp (enc:=aq) O d7 tH dz bN O (kk:=3) O O (λ_=>O) (λ_=>O) hg6 O<|dL (E:=([],[(rg,37)])) O O (by simp) (cfo krZ<|cfa (by simp[aJ])<|cfn) (bq gf Dj yn (es:=[eL aq (bH (at' m.P i) 0<|j+1)]) O (kk:=1) O O O O O O (λg7=>dL (E:=([(rg,37)],[(rg,38)])) O O (by simp) (cfo krZ<|cfo krZ<|cfo krZ<|cfn) (cr gf FM Dj yn (es:=x) (xs:=[(bH (at' m.P i) 0<|j+1)]) (enc:=eL aq) (aZ 38 O) lzZ (bz (aZ 37 O) lzZ) (kk:=1) O O (λ_=>O) (λ_=>O) hg7 O (λ_=>aS) (λg8=>dP O O<|aD cX O ?_)))))))))))
  exact dL (E:=([],[(rg,5)])) O O (by simp) (cfo krZ<|cfo krZ<|cfo krZ<|cfo krZ<|cfn) (ay (aZ 5 O) gK dZ O (w:=.sl 1 rg 38 g8 0 ((x++[(bH (at' m.P i) 0<|j+1)]).length)) O O O (v:=.agg [.sl 3 rg 16 g4 0 ((bH m.Phases 0<|j+1).length),.sl 1 rg 38 g8 0 ((x++[(bH (at' m.P i) 0<|j+1)]).length)]) O aS (dN<|rZ<|mvZ (iZ i) O<|tkZ h (λhg8 h=>ac<|aC O O hg8<|asZ (iZ<|i+1) O<|nZ<|⟨(((i+1),(x++[(bH (at' m.P i) 0<|j+1)])),g8),(canon (aN<|fZ<|fn)<|cB O O O O<|sc O<|sn),h⟩)))
 exact xsZ<|ah<|ac<|aw (aZ 5 O) dp dZ eR O O (v:=.agg [.sl 3 rg 16 g4 0 ((bH m.Phases 0<|j+1).length),.sl 1 rg 38 g6 0 x.length]) O (ac<|ay (aZ 4 O) dp dZ O (w:=.agg [.sl 3 rg 16 g4 0 ((bH m.Phases 0<|j+1).length),.sl 1 rg 38 g6 0 x.length]) O O O (v:=.agg [.sl 3 rg 16 g4 0 ((bH m.Phases 0<|j+1).length),.sl 1 rg 38 g6 0 x.length]) O aS (aF<|bh (aZ 4 O) dp dZ eR O O (v:=.agg [.sl 3 rg 16 g4 0 ((bH m.Phases 0<|j+1).length),.sl 1 rg 38 g6 0 x.length]) O (aK<|br (k:=16) (xs:=List.map ak (bH m.Phases 0<|j+1)) O (v':=.agg [eL ak (bH m.Phases 0<|j+1),.sl 1 rg 38 g6 0 x.length]) (VW.aggL<|vl' (be O)<|vl' (eu O)<|vn) (br (k:=38) (xs:=List.map (eL aq) x) O (v':=.agg [eL ak (bH m.Phases 0<|j+1),eL (eL aq) x]) (VW.aggL<|vZ<|vl' (be O)<|vn) (goZ hrg<|hQ _ h)))))
end Go.Proofs.YtnjgdkfhgmebjaaGreat
