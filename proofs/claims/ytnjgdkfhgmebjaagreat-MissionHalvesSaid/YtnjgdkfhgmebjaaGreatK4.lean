/- Walks of functions. Conditions: none. -/
import Derived.Test.YtnjgdkfhgmebjaaGreatWa
import Derived.Test.YtnjgdkfhgmebjaaGreatGgTy
import Derived.Test.YtnjgdkfhgmebjaaGreatGd
import Derived.Test.YtnjgdkfhgmebjaaGreatK2
import Derived.Test.YtnjgdkfhgmebjaaGreatK3
import Derived.Test.YtnjgdkfhgmebjaaGreatK1
import Derived.Test.YtnjgdkfhgmebjaaGreatGd2
import Derived.Test.YtnjgdkfhgmebjaaGreatGh
namespace Go.Proofs.YtnjgdkfhgmebjaaGreat
open Go.Gg Tryz
set_option maxRecDepth 100000
variable {S:St} {R:AV->St->Prop}
theorem pT {refs:List Int} {k6:Int} {order:List Int} {place:List Int} {nodes:List GDNode} {unique:GMap Int} {memo:GMap Int} {q0 k0 g0 q1 k1 g1 q2 k2 g2 q3 k3 g3 q4 k4 g4 q5 k5 g5:Nat} (hdk:DK [(q0,k0),(q3,k3),(q4,k4),(q5,k5),(q1,k1),(q2,k2)]) {Q:List GDNode->GMap Int->GMap Int->Int->Prop} (h:jB refs k6 order place nodes unique memo Q) (hQ:∀r1 r2 r3 r4,∀h3,Q r1 r2 r3 r4->R (iZ r4) (stX S [(q0,k0,.arr 5 [.agg [.sl 1 q1 k1 g1 0 order.length,.sl 1 q2 k2 g2 0 place.length,.sl 3 q3 k3 h3 0 r1.length,.map q4 k4 g4,.map q5 k5 g5]],g0),(q3,k3,.arr 3 (List.map aX r1),h3),(q4,k4,a_ iZ zKt r2,g4),(q5,k5,a_ iZ zKt r3,g5),(q1,k1,.arr 1 (List.map iZ order),g1),(q2,k2,.arr 1 (List.map iZ place),g2)])) :
  Ctr prog 254 [.ptr q0 k0 g0 0 0,bt refs,iZ k6] (stX S [(q0,k0,.arr 5 [.agg [.sl 1 q1 k1 g1 0 order.length,.sl 1 q2 k2 g2 0 place.length,.sl 3 q3 k3 g3 0 nodes.length,.map q4 k4 g4,.map q5 k5 g5]],g0),(q3,k3,.arr 3 (List.map aX nodes),g3),(q4,k4,a_ iZ zKt unique,g4),(q5,k5,a_ iZ zKt memo,g5),(q1,k1,.arr 1 (List.map iZ order),g1),(q2,k2,.arr 1 (List.map iZ place),g2)]) R:=by
 refine aI func254 rfl ntmps254 results254 krZ (λrg hrg=>?_)
 have hdx:DX [(q0,k0,.arr 5 [.agg [.sl 1 q1 k1 g1 0 order.length,.sl 1 q2 k2 g2 0 place.length,.sl 3 q3 k3 g3 0 nodes.length,.map q4 k4 g4,.map q5 k5 g5]],g0),(q3,k3,.arr 3 (List.map aX nodes),g3),(q4,k4,a_ iZ zKt unique,g4),(q5,k5,a_ iZ zKt memo,g5),(q1,k1,.arr 1 (List.map iZ order),g1),(q2,k2,.arr 1 (List.map iZ place),g2)]:=hdk
 have hfr:=λX' e=>bY (S:=S) (rg:=rg) (X:=[(q0,k0,.arr 5 [.agg [.sl 1 q1 k1 g1 0 order.length,.sl 1 q2 k2 g2 0 place.length,.sl 3 q3 k3 g3 0 nodes.length,.map q4 k4 g4,.map q5 k5 g5]],g0),(q3,k3,.arr 3 (List.map aX nodes),g3),(q4,k4,a_ iZ zKt unique,g4),(q5,k5,a_ iZ zKt memo,g5),(q1,k1,.arr 1 (List.map iZ order),g1),(q2,k2,.arr 1 (List.map iZ place),g2)]) (X':=X') e hrg
 have hne0:=az hdx hrg 0 rfl
 have hne3:=az hdx hrg 1 rfl
 have hne4:=az hdx hrg 2 rfl
 have hne5:=az hdx hrg 3 rfl
 have hne1:=az hdx hrg 4 rfl
 have hne2:=az hdx hrg 5 rfl
 refine aj<|asZ (iZ 0) O<|aU<|mvZ (iZ k6) O<|tkZ h (λhg h=>ac<|aG O O hg<|tkZ h (λhg1 h=>wZ rg<|gb bJ oA ok3 (enc:=iZ) (z':=0) gE (kk:=1) O O O hg1 (λg6=>asZ (.sl 1 rg 13 g6 0<|Int.toNat<|k6+1) O<|aU<|mvZ (.sl 1 rg 13 g6 0<|Int.toNat<|k6+1) O<|tkZ h (λhi h=>ac<|bm bJ sz3 dZ O O hi<|ac<|bR (aZ 13 O) sz3 dZ (x':=1) (λ_=>O) O O (bH hi lzZ) O O aV<|nZ<|qZ<|aj<|mvZ (bt refs) O<|ac<|aJ bJ O<|mvZ (iZ 0) O<|nZ<|bZ<|lgZ h g3 (λy=>ba [(0,.ptr q0 k0 g0 0 0),(2,iZ k6),(7,.sl 1 rg 13 g6 0 y.1.2.1.length),(16,bt refs),(17,iZ (refs.length:Int)),(18,iZ y.1.1)]) (λy=>stL (stX S [(q0,k0,.arr 5 [.agg [.sl 1 q1 k1 g1 0 order.length,.sl 1 q2 k2 g2 0 place.length,.sl 3 q3 k3 y.2 0 y.1.2.2.1.length,.map q4 k4 g4,.map q5 k5 g5]],g0),(q3,k3,.arr 3 (List.map aX y.1.2.2.1),y.2),(q4,k4,a_ iZ zKt y.1.2.2.2.1,g4),(q5,k5,a_ iZ zKt y.1.2.2.2.2,g5),(q1,k1,.arr 1 (List.map iZ order),g1),(q2,k2,.arr 1 (List.map iZ place),g2)]) rg [(13,.arr 1 (List.map iZ y.1.2.1),g6)]) (canon (fZ<|fZ<|fc (VW.slen lzZ)<|fZ<|fZ<|fZ<|fn)<|sc O<|sn) (λy _ h=>?_)))))
 obtain⟨⟨x,need,x1,x2,x3⟩,g7⟩:=y
 refine aj<|ac<|bj O O<|nZ<|qZ<|cZ h O (λhb h=>?_) (λhb h=>?_)
 ·refine kZ<|qZ<|bZ<|aj<|tkZ h (λhg2 h=>ac<|aQ bJ sz3 dZ (λ_=>O) O O hg2<|ac<|aL sz3 ag3 O O (v:=iZ (at' refs x)) O<|asZ (iZ<|at' refs x) O<|aU<|mvZ (iZ k6) O<|asZ (iZ k6) O<|nZ<|bZ<|lgZ h g7 (λy=>ba [(0,.ptr q0 k0 g0 0 0),(2,iZ k6),(7,.sl 1 rg 13 g6 0 y.1.2.1.length),(9,iZ (at' refs x)),(10,iZ y.1.1),(16,bt refs),(17,iZ (refs.length:Int)),(18,iZ x)]) (λy=>stL (stX S [(q0,k0,.arr 5 [.agg [.sl 1 q1 k1 g1 0 order.length,.sl 1 q2 k2 g2 0 place.length,.sl 3 q3 k3 y.2 0 y.1.2.2.1.length,.map q4 k4 g4,.map q5 k5 g5]],g0),(q3,k3,.arr 3 (List.map aX y.1.2.2.1),y.2),(q4,k4,a_ iZ zKt y.1.2.2.2.1,g4),(q5,k5,a_ iZ zKt y.1.2.2.2.2,g5),(q1,k1,.arr 1 (List.map iZ order),g1),(q2,k2,.arr 1 (List.map iZ place),g2)]) rg [(13,.arr 1 (List.map iZ y.1.2.1),g6)]) (canon (aP<|aP<|fn)<|sc O<|sn) (λy _ h=>?_))
  obtain⟨⟨j,need1,x4,x5,x6⟩,g8⟩:=y
  refine qZ<|aj<|mvZ (iZ j) O<|ac<|c9 O O<|nZ<|cZ h O (λhb1 h=>?_) (λhb1 h=>?_)
  ·refine kZ<|qZ<|bZ<|tkZ h (λhg3 h=>tkZ h (λhi1 h=>tkZ h (λhi2 h=>?_)))
   obtain⟨u,u1,u2,r,hc,h⟩:=h
   obtain⟨_,hc⟩:=hc
   refine tkZ h (λhi3 h=>Vc.drawn' bA rg (fH [(13,wc (λ_=>iZ r) [(q1,k1),(q2,k2)] [(q0,k0),(q3,k3),(q4,k4),(q5,k5)] (λgm=>[(q0,k0,.arr 5 [.agg [.sl 1 q1 k1 g1 0 order.length,.sl 1 q2 k2 g2 0 place.length,.sl 3 q3 k3 (gm 0) 0 u.length,.map q4 k4 g4,.map q5 k5 g5]],g0),(q3,k3,.arr 3 (List.map aX u),(gm 0)),(q4,k4,a_ iZ zKt u1,g4),(q5,k5,a_ iZ zKt u2,g5)]))]) krZ (dP O O<|aA (v:=.sl 1 rg 13 g6 0 need1.length) O<|dP O O<|aA (v:=iZ j) O<|dP O O<|aA (v:=.ptr q0 k0 g0 0 0) O<|dP O O<|aA (v:=iZ (at' refs x)) O<|dP O O<|aA (v:=.sl 1 rg 13 g6 0 need1.length) O<|dP O O<|aA (v:=iZ j) O<|dP O O<|bW O O hg3<|dP O O<|bm bJ sz3 dZ O O hi1<|dL (E:=([(rg,13)],[])) O O zSm (cfn) (cc (aZ 13 O) sz3 ag3 O (bH hi1 lzZ) O (v:=iZ (at' need1<|j-1)) O (dP O O<|aA (v:=.sl 1 rg 13 g6 0 need1.length) O<|dP O O<|aA (v:=iZ j) O<|dP O O<|bm bJ sz3 dZ O O hi2<|dL (E:=([(rg,13)],[])) O O zSm (cfa zAp<|cfn) (cc (aZ 13 O) sz3 ag3 O (bH hi2 lzZ) O (v:=iZ (at' need1 j)) O ?_)))))
   refine dCE (vs:=[.ptr q0 k0 g0 0 0,iZ (at' refs x),iZ (at' need1<|j-1),iZ (at' need1 j)]) (V:=λ_=>iZ r) (rd:=[(q1,k1),(q2,k2)]) (wk:=[(q0,k0),(q3,k3),(q4,k4),(q5,k5)]) (wr:=λgm=>[(q0,k0,.arr 5 [.agg [.sl 1 q1 k1 g1 0 order.length,.sl 1 q2 k2 g2 0 place.length,.sl 3 q3 k3 (gm 0) 0 u.length,.map q4 k4 g4,.map q5 k5 g5]],g0),(q3,k3,.arr 3 (List.map aX u),(gm 0)),(q4,k4,a_ iZ zKt u1,g4),(q5,k5,a_ iZ zKt u2,g5)]) rfl (vZ<|vZ<|vZ<|vZ<|vn) rfl (cfo krZ<|cfo krZ<|cfn) zSm (λ_=>rfl) (λS' hA hB=>eX (au (ag hB 0 rfl<|atX hne0 hdx 0 rfl)<|au (ag hB 1 rfl<|atX hne3 hdx 1 rfl)<|au (ag hB 2 rfl<|atX hne4 hdx 2 rfl)<|au (ag hB 3 rfl<|atX hne5 hdx 3 rfl)<|au (ag hA 0 rfl<|atX hne1 hdx 4 rfl)<|au (ag hA 1 rfl<|atX hne2 hdx 5 rfl)<|b_)<|cw (aN (ah (ae 0 1 hdk rfl rfl rfl)<|ah (ae 0 2 hdk rfl rfl rfl)<|ah (ae 0 3 hdk rfl rfl rfl)<|ah (ae 0 4 hdk rfl rfl rfl)<|ah (ae 0 5 hdk rfl rfl rfl)<|aM)<|aN (ah (ae 1 2 hdk rfl rfl rfl)<|ah (ae 1 3 hdk rfl rfl rfl)<|ah (ae 1 4 hdk rfl rfl rfl)<|ah (ae 1 5 hdk rfl rfl rfl)<|aM)<|aN (ah (ae 2 3 hdk rfl rfl rfl)<|ah (ae 2 4 hdk rfl rfl rfl)<|ah (ae 2 5 hdk rfl rfl rfl)<|aM)<|aN (ah (ae 3 4 hdk rfl rfl rfl)<|ah (ae 3 5 hdk rfl rfl rfl)<|aM)<|aN (ah (ae 4 5 hdk rfl rfl rfl)<|aM)<|aN (aM)<|fi) hc (λ_ _ _ _ h3 he=>by obtain⟨rfl,rfl,rfl,rfl⟩:=he;exact⟨λi=>[h3].getD i 0,rfl,tr (tr<|tr<|tr<|au (ag hA 0 rfl<|atX hne1 hdx 4 rfl)<|au (ag hA 1 rfl<|atX hne2 hdx 5 rfl)<|b_)⟩)) (λgm=>?_)
   exact je (ql (ql (ql (ql (ux)<|bU hne5 hdx 3 O O)<|bU hne4 hdx 2 O O)<|bU hne3 hdx 1 O O)<|bU hne0 hdx 0 O O)<|dP O O<|bm bJ sz3 dZ O O hi3<|dL (E:=([],[(rg,13)])) O O zSm (cfo krZ<|cfo krZ<|cfo krZ<|cfn) (bR (aZ 13 O) sz3 dZ (x':=r) (λ_=>O) O O (bH hi3 lzZ) O O aV<|dN<|rZ<|mvZ (iZ j) O<|tkZ h (λhg4 h=>ac<|bW O O hg4<|asZ (iZ<|j-1) O<|nZ<|⟨(((j-1),(bu need1 j r),u,u1,u2),(gm 0)),(canon (fZ<|fZ<|fc (VW.slen lzZ)<|aP<|fZ<|fn)<|sc O<|sn),h⟩))
  exact xsZ<|rZ<|tkZ h (λhg5 h=>ac<|aG O O hg5<|mvZ (iZ<|x+1) O<|nZ<|⟨(((x+1),need1,x4,x5,x6),g8),(canon (aP<|fZ<|fZ<|fn)<|sc O<|sn),h⟩)
 exact xsZ<|aj<|mvZ (.sl 1 rg 13 g6 0 need.length) O<|mvZ (iZ k6) O<|tkZ h (λhi4 h=>ac<|bm bJ sz3 dZ O O hi4<|ac<|cc (aZ 13 O) sz3 ag3 O (bH hi4 lzZ) O (v:=iZ (at' need k6)) O<|asZ (iZ<|at' need k6) O<|aE<|gv1 (hfr _ O)<|hQ _ _ _ _ _ h)
theorem pV {refs:List Int} {first:Int} {order:List Int} {place:List Int} {nodes:List GDNode} {unique:GMap Int} {memo:GMap Int} {q0 k0 g0 q1 k1 g1 q2 k2 g2 q3 k3 g3 q4 k4 g4 q5 k5 g5:Nat} (hdk:DK [(q0,k0),(q3,k3),(q4,k4),(q5,k5),(q1,k1),(q2,k2)]) {Q:List GDNode->GMap Int->GMap Int->Int->Prop} (h:mL refs first order place nodes unique memo Q) (hQ:∀r1 r2 r3 r4,∀h3,Q r1 r2 r3 r4->R (iZ r4) (stX S [(q0,k0,.arr 5 [.agg [.sl 1 q1 k1 g1 0 order.length,.sl 1 q2 k2 g2 0 place.length,.sl 3 q3 k3 h3 0 r1.length,.map q4 k4 g4,.map q5 k5 g5]],g0),(q3,k3,.arr 3 (List.map aX r1),h3),(q4,k4,a_ iZ zKt r2,g4),(q5,k5,a_ iZ zKt r3,g5),(q1,k1,.arr 1 (List.map iZ order),g1),(q2,k2,.arr 1 (List.map iZ place),g2)])) :
  Ctr prog 250 [bt refs,iZ first,.fn (.func 251) [.ptr q0 k0 g0 0 0] []] (stX S [(q0,k0,.arr 5 [.agg [.sl 1 q1 k1 g1 0 order.length,.sl 1 q2 k2 g2 0 place.length,.sl 3 q3 k3 g3 0 nodes.length,.map q4 k4 g4,.map q5 k5 g5]],g0),(q3,k3,.arr 3 (List.map aX nodes),g3),(q4,k4,a_ iZ zKt unique,g4),(q5,k5,a_ iZ zKt memo,g5),(q1,k1,.arr 1 (List.map iZ order),g1),(q2,k2,.arr 1 (List.map iZ place),g2)]) R:=by
 refine aI func250 rfl ntmps250 results250 krZ (λrg hrg=>?_)
 have hdx:DX [(q0,k0,.arr 5 [.agg [.sl 1 q1 k1 g1 0 order.length,.sl 1 q2 k2 g2 0 place.length,.sl 3 q3 k3 g3 0 nodes.length,.map q4 k4 g4,.map q5 k5 g5]],g0),(q3,k3,.arr 3 (List.map aX nodes),g3),(q4,k4,a_ iZ zKt unique,g4),(q5,k5,a_ iZ zKt memo,g5),(q1,k1,.arr 1 (List.map iZ order),g1),(q2,k2,.arr 1 (List.map iZ place),g2)]:=hdk
 have hfr:=λX' e=>bY (S:=S) (rg:=rg) (X:=[(q0,k0,.arr 5 [.agg [.sl 1 q1 k1 g1 0 order.length,.sl 1 q2 k2 g2 0 place.length,.sl 3 q3 k3 g3 0 nodes.length,.map q4 k4 g4,.map q5 k5 g5]],g0),(q3,k3,.arr 3 (List.map aX nodes),g3),(q4,k4,a_ iZ zKt unique,g4),(q5,k5,a_ iZ zKt memo,g5),(q1,k1,.arr 1 (List.map iZ order),g1),(q2,k2,.arr 1 (List.map iZ place),g2)]) (X':=X') e hrg
 have hne0:=az hdx hrg 0 rfl
 have hne3:=az hdx hrg 1 rfl
 have hne4:=az hdx hrg 2 rfl
 have hne5:=az hdx hrg 3 rfl
 have hne1:=az hdx hrg 4 rfl
 have hne2:=az hdx hrg 5 rfl
 refine aj<|asZ (iZ 0) O<|nZ<|qZ<|aj<|mvZ (bt refs) O<|ac<|aJ bJ O<|mvZ (iZ 0) O<|nZ<|bZ<|lgZ h g3 (λy=>ba [(1,iZ y.1.1),(2,.fn (.func 251) [.ptr q0 k0 g0 0 0] []),(9,bt refs),(10,iZ (refs.length:Int)),(11,iZ y.1.2.1)]) (λy=>stL (stX S [(q0,k0,.arr 5 [.agg [.sl 1 q1 k1 g1 0 order.length,.sl 1 q2 k2 g2 0 place.length,.sl 3 q3 k3 y.2 0 y.1.2.2.1.length,.map q4 k4 g4,.map q5 k5 g5]],g0),(q3,k3,.arr 3 (List.map aX y.1.2.2.1),y.2),(q4,k4,a_ iZ zKt y.1.2.2.2.1,g4),(q5,k5,a_ iZ zKt y.1.2.2.2.2,g5),(q1,k1,.arr 1 (List.map iZ order),g1),(q2,k2,.arr 1 (List.map iZ place),g2)]) rg []) (canon (aP<|fZ<|fn)<|sn) (λy _ h=>?_)
 obtain⟨⟨first1,x,x1,x2,x3⟩,g6⟩:=y
 refine aj<|ac<|bj O O<|nZ<|qZ<|cZ h O (λhb h=>?_) (λhb h=>?_)
 ·exact kZ<|qZ<|bZ<|aj<|tkZ h (λhg h=>ac<|aQ bJ sz3 dZ (λ_=>O) O O hg<|ac<|aL sz3 ag3 O O (v:=iZ (at' refs x)) O<|asZ (iZ<|at' refs x) O<|nZ<|rZ<|mvZ (.fn (.func 251) [.ptr q0 k0 g0 0 0] []) O<|mvZ (iZ first1) O<|mvZ (iZ<|at' refs x) O<|ac<|clZ O<|eX (au (atX hne0 hdx 0 O)<|au (atX hne3 hdx 1 O)<|au (atX hne4 hdx 2 O)<|au (atX hne5 hdx 3 O)<|au (atX hne1 hdx 4 O)<|au (atX hne2 hdx 5 O)<|b_)<|mj (aN (ah (ae 0 1 hdk O O O)<|ah (ae 0 2 hdk O O O)<|ah (ae 0 3 hdk O O O)<|ah (ae 0 4 hdk O O O)<|ah (ae 0 5 hdk O O O)<|aM)<|aN (ah (ae 1 2 hdk O O O)<|ah (ae 1 3 hdk O O O)<|ah (ae 1 4 hdk O O O)<|ah (ae 1 5 hdk O O O)<|aM)<|aN (ah (ae 2 3 hdk O O O)<|ah (ae 2 4 hdk O O O)<|ah (ae 2 5 hdk O O O)<|aM)<|aN (ah (ae 3 4 hdk O O O)<|ah (ae 3 5 hdk O O O)<|aM)<|aN (ah (ae 4 5 hdk O O O)<|aM)<|aN (aM)<|fi) h λu u1 u2 first2 g7 h=>ck (b8 (b8 (b8 (b8 (au (atX hne1 hdx 4 O)<|au (atX hne2 hdx 5 O)<|b_)<|bU hne5 hdx 3 O O)<|bU hne4 hdx 2 O O)<|bU hne3 hdx 1 O O)<|bU hne0 hdx 0 O O)<|asZ (iZ first2) O<|nZ<|rZ<|tkZ h (λhg1 h=>ac<|aG O O hg1<|mvZ (iZ<|x+1) O<|nZ<|⟨((first2,(x+1),u,u1,u2),g7),(canon (aP<|fZ<|fn)<|sn),h⟩))
 exact xsZ<|aj<|mvZ (iZ first1) O<|asZ (iZ first1) O<|aE<|gv1 (hfr _ O)<|hQ _ _ _ _ _ h
theorem o6 {refs:List Int} {first:Int} {order:List Int} {place:List Int} {nodes:List GDNode} {unique:GMap Int} {memo:GMap Int} {q0 k0 g0 q1 k1 g1 q2 k2 g2 q3 k3 g3 q4 k4 g4 q5 k5 g5:Nat} (hdk:DK [(q0,k0),(q3,k3),(q4,k4),(q5,k5),(q1,k1),(q2,k2)]) {Q:List GDNode->GMap Int->GMap Int->Int->Prop} (h:mg refs first order place nodes unique memo Q) (hQ:∀r1 r2 r3 r4,∀h3,Q r1 r2 r3 r4->R (iZ r4) (stX S [(q0,k0,.arr 5 [.agg [.sl 1 q1 k1 g1 0 order.length,.sl 1 q2 k2 g2 0 place.length,.sl 3 q3 k3 h3 0 r1.length,.map q4 k4 g4,.map q5 k5 g5]],g0),(q3,k3,.arr 3 (List.map aX r1),h3),(q4,k4,a_ iZ zKt r2,g4),(q5,k5,a_ iZ zKt r3,g5),(q1,k1,.arr 1 (List.map iZ order),g1),(q2,k2,.arr 1 (List.map iZ place),g2)])) :
  Ctr prog 250 [bt refs,iZ first,.fn (.func 252) [.ptr q0 k0 g0 0 0] []] (stX S [(q0,k0,.arr 5 [.agg [.sl 1 q1 k1 g1 0 order.length,.sl 1 q2 k2 g2 0 place.length,.sl 3 q3 k3 g3 0 nodes.length,.map q4 k4 g4,.map q5 k5 g5]],g0),(q3,k3,.arr 3 (List.map aX nodes),g3),(q4,k4,a_ iZ zKt unique,g4),(q5,k5,a_ iZ zKt memo,g5),(q1,k1,.arr 1 (List.map iZ order),g1),(q2,k2,.arr 1 (List.map iZ place),g2)]) R:=by
 refine aI func250 rfl ntmps250 results250 krZ (λrg hrg=>?_)
 have hdx:DX [(q0,k0,.arr 5 [.agg [.sl 1 q1 k1 g1 0 order.length,.sl 1 q2 k2 g2 0 place.length,.sl 3 q3 k3 g3 0 nodes.length,.map q4 k4 g4,.map q5 k5 g5]],g0),(q3,k3,.arr 3 (List.map aX nodes),g3),(q4,k4,a_ iZ zKt unique,g4),(q5,k5,a_ iZ zKt memo,g5),(q1,k1,.arr 1 (List.map iZ order),g1),(q2,k2,.arr 1 (List.map iZ place),g2)]:=hdk
 have hfr:=λX' e=>bY (S:=S) (rg:=rg) (X:=[(q0,k0,.arr 5 [.agg [.sl 1 q1 k1 g1 0 order.length,.sl 1 q2 k2 g2 0 place.length,.sl 3 q3 k3 g3 0 nodes.length,.map q4 k4 g4,.map q5 k5 g5]],g0),(q3,k3,.arr 3 (List.map aX nodes),g3),(q4,k4,a_ iZ zKt unique,g4),(q5,k5,a_ iZ zKt memo,g5),(q1,k1,.arr 1 (List.map iZ order),g1),(q2,k2,.arr 1 (List.map iZ place),g2)]) (X':=X') e hrg
 have hne0:=az hdx hrg 0 rfl
 have hne3:=az hdx hrg 1 rfl
 have hne4:=az hdx hrg 2 rfl
 have hne5:=az hdx hrg 3 rfl
 have hne1:=az hdx hrg 4 rfl
 have hne2:=az hdx hrg 5 rfl
 refine aj<|asZ (iZ 0) O<|nZ<|qZ<|aj<|mvZ (bt refs) O<|ac<|aJ bJ O<|mvZ (iZ 0) O<|nZ<|bZ<|lgZ h g3 (λy=>ba [(1,iZ y.1.1),(2,.fn (.func 252) [.ptr q0 k0 g0 0 0] []),(9,bt refs),(10,iZ (refs.length:Int)),(11,iZ y.1.2.1)]) (λy=>stL (stX S [(q0,k0,.arr 5 [.agg [.sl 1 q1 k1 g1 0 order.length,.sl 1 q2 k2 g2 0 place.length,.sl 3 q3 k3 y.2 0 y.1.2.2.1.length,.map q4 k4 g4,.map q5 k5 g5]],g0),(q3,k3,.arr 3 (List.map aX y.1.2.2.1),y.2),(q4,k4,a_ iZ zKt y.1.2.2.2.1,g4),(q5,k5,a_ iZ zKt y.1.2.2.2.2,g5),(q1,k1,.arr 1 (List.map iZ order),g1),(q2,k2,.arr 1 (List.map iZ place),g2)]) rg []) (canon (aP<|fZ<|fn)<|sn) (λy _ h=>?_)
 obtain⟨⟨first1,x,x1,x2,x3⟩,g6⟩:=y
 refine aj<|ac<|bj O O<|nZ<|qZ<|cZ h O (λhb h=>?_) (λhb h=>?_)
 ·exact kZ<|qZ<|bZ<|aj<|tkZ h (λhg h=>ac<|aQ bJ sz3 dZ (λ_=>O) O O hg<|ac<|aL sz3 ag3 O O (v:=iZ (at' refs x)) O<|asZ (iZ<|at' refs x) O<|nZ<|rZ<|mvZ (.fn (.func 252) [.ptr q0 k0 g0 0 0] []) O<|mvZ (iZ first1) O<|mvZ (iZ<|at' refs x) O<|ac<|clZ O<|eX (au (atX hne0 hdx 0 O)<|au (atX hne3 hdx 1 O)<|au (atX hne4 hdx 2 O)<|au (atX hne5 hdx 3 O)<|au (atX hne1 hdx 4 O)<|au (atX hne2 hdx 5 O)<|b_)<|mr (aN (ah (ae 0 1 hdk O O O)<|ah (ae 0 2 hdk O O O)<|ah (ae 0 3 hdk O O O)<|ah (ae 0 4 hdk O O O)<|ah (ae 0 5 hdk O O O)<|aM)<|aN (ah (ae 1 2 hdk O O O)<|ah (ae 1 3 hdk O O O)<|ah (ae 1 4 hdk O O O)<|ah (ae 1 5 hdk O O O)<|aM)<|aN (ah (ae 2 3 hdk O O O)<|ah (ae 2 4 hdk O O O)<|ah (ae 2 5 hdk O O O)<|aM)<|aN (ah (ae 3 4 hdk O O O)<|ah (ae 3 5 hdk O O O)<|aM)<|aN (ah (ae 4 5 hdk O O O)<|aM)<|aN (aM)<|fi) h λu u1 u2 first2 g7 h=>ck (b8 (b8 (b8 (b8 (au (atX hne1 hdx 4 O)<|au (atX hne2 hdx 5 O)<|b_)<|bU hne5 hdx 3 O O)<|bU hne4 hdx 2 O O)<|bU hne3 hdx 1 O O)<|bU hne0 hdx 0 O O)<|asZ (iZ first2) O<|nZ<|rZ<|tkZ h (λhg1 h=>ac<|aG O O hg1<|mvZ (iZ<|x+1) O<|nZ<|⟨((first2,(x+1),u,u1,u2),g7),(canon (aP<|fZ<|fn)<|sn),h⟩))
 exact xsZ<|aj<|mvZ (iZ first1) O<|asZ (iZ first1) O<|aE<|gv1 (hfr _ O)<|hQ _ _ _ _ _ h
theorem o5 {refs:List Int} {first:Int} {order:List Int} {place:List Int} {nodes:List GDNode} {unique:GMap Int} {memo:GMap Int} {q0 k0 g0 q1 k1 g1 q2 k2 g2 q3 k3 g3 q4 k4 g4 q5 k5 g5:Nat} (hdk:DK [(q0,k0),(q3,k3),(q4,k4),(q5,k5),(q1,k1),(q2,k2)]) {Q:List GDNode->GMap Int->GMap Int->Int->Prop} (h:mf refs first order place nodes unique memo Q) (hQ:∀r1 r2 r3 r4,∀h3,Q r1 r2 r3 r4->R (iZ r4) (stX S [(q0,k0,.arr 5 [.agg [.sl 1 q1 k1 g1 0 order.length,.sl 1 q2 k2 g2 0 place.length,.sl 3 q3 k3 h3 0 r1.length,.map q4 k4 g4,.map q5 k5 g5]],g0),(q3,k3,.arr 3 (List.map aX r1),h3),(q4,k4,a_ iZ zKt r2,g4),(q5,k5,a_ iZ zKt r3,g5),(q1,k1,.arr 1 (List.map iZ order),g1),(q2,k2,.arr 1 (List.map iZ place),g2)])) :
  Ctr prog 250 [bt refs,iZ first,.fn (.func 253) [.ptr q0 k0 g0 0 0] []] (stX S [(q0,k0,.arr 5 [.agg [.sl 1 q1 k1 g1 0 order.length,.sl 1 q2 k2 g2 0 place.length,.sl 3 q3 k3 g3 0 nodes.length,.map q4 k4 g4,.map q5 k5 g5]],g0),(q3,k3,.arr 3 (List.map aX nodes),g3),(q4,k4,a_ iZ zKt unique,g4),(q5,k5,a_ iZ zKt memo,g5),(q1,k1,.arr 1 (List.map iZ order),g1),(q2,k2,.arr 1 (List.map iZ place),g2)]) R:=by
 refine aI func250 rfl ntmps250 results250 krZ (λrg hrg=>?_)
 have hdx:DX [(q0,k0,.arr 5 [.agg [.sl 1 q1 k1 g1 0 order.length,.sl 1 q2 k2 g2 0 place.length,.sl 3 q3 k3 g3 0 nodes.length,.map q4 k4 g4,.map q5 k5 g5]],g0),(q3,k3,.arr 3 (List.map aX nodes),g3),(q4,k4,a_ iZ zKt unique,g4),(q5,k5,a_ iZ zKt memo,g5),(q1,k1,.arr 1 (List.map iZ order),g1),(q2,k2,.arr 1 (List.map iZ place),g2)]:=hdk
 have hfr:=λX' e=>bY (S:=S) (rg:=rg) (X:=[(q0,k0,.arr 5 [.agg [.sl 1 q1 k1 g1 0 order.length,.sl 1 q2 k2 g2 0 place.length,.sl 3 q3 k3 g3 0 nodes.length,.map q4 k4 g4,.map q5 k5 g5]],g0),(q3,k3,.arr 3 (List.map aX nodes),g3),(q4,k4,a_ iZ zKt unique,g4),(q5,k5,a_ iZ zKt memo,g5),(q1,k1,.arr 1 (List.map iZ order),g1),(q2,k2,.arr 1 (List.map iZ place),g2)]) (X':=X') e hrg
 have hne0:=az hdx hrg 0 rfl
 have hne3:=az hdx hrg 1 rfl
 have hne4:=az hdx hrg 2 rfl
 have hne5:=az hdx hrg 3 rfl
 have hne1:=az hdx hrg 4 rfl
 have hne2:=az hdx hrg 5 rfl
 refine aj<|asZ (iZ 0) O<|nZ<|qZ<|aj<|mvZ (bt refs) O<|ac<|aJ bJ O<|mvZ (iZ 0) O<|nZ<|bZ<|lgZ h g3 (λy=>ba [(1,iZ y.1.1),(2,.fn (.func 253) [.ptr q0 k0 g0 0 0] []),(9,bt refs),(10,iZ (refs.length:Int)),(11,iZ y.1.2.1)]) (λy=>stL (stX S [(q0,k0,.arr 5 [.agg [.sl 1 q1 k1 g1 0 order.length,.sl 1 q2 k2 g2 0 place.length,.sl 3 q3 k3 y.2 0 y.1.2.2.1.length,.map q4 k4 g4,.map q5 k5 g5]],g0),(q3,k3,.arr 3 (List.map aX y.1.2.2.1),y.2),(q4,k4,a_ iZ zKt y.1.2.2.2.1,g4),(q5,k5,a_ iZ zKt y.1.2.2.2.2,g5),(q1,k1,.arr 1 (List.map iZ order),g1),(q2,k2,.arr 1 (List.map iZ place),g2)]) rg []) (canon (aP<|fZ<|fn)<|sn) (λy _ h=>?_)
 obtain⟨⟨first1,x,x1,x2,x3⟩,g6⟩:=y
 refine aj<|ac<|bj O O<|nZ<|qZ<|cZ h O (λhb h=>?_) (λhb h=>?_)
 ·exact kZ<|qZ<|bZ<|aj<|tkZ h (λhg h=>ac<|aQ bJ sz3 dZ (λ_=>O) O O hg<|ac<|aL sz3 ag3 O O (v:=iZ (at' refs x)) O<|asZ (iZ<|at' refs x) O<|nZ<|rZ<|mvZ (.fn (.func 253) [.ptr q0 k0 g0 0 0] []) O<|mvZ (iZ first1) O<|mvZ (iZ<|at' refs x) O<|ac<|clZ O<|eX (au (atX hne0 hdx 0 O)<|au (atX hne3 hdx 1 O)<|au (atX hne4 hdx 2 O)<|au (atX hne5 hdx 3 O)<|au (atX hne1 hdx 4 O)<|au (atX hne2 hdx 5 O)<|b_)<|mh (aN (ah (ae 0 1 hdk O O O)<|ah (ae 0 2 hdk O O O)<|ah (ae 0 3 hdk O O O)<|ah (ae 0 4 hdk O O O)<|ah (ae 0 5 hdk O O O)<|aM)<|aN (ah (ae 1 2 hdk O O O)<|ah (ae 1 3 hdk O O O)<|ah (ae 1 4 hdk O O O)<|ah (ae 1 5 hdk O O O)<|aM)<|aN (ah (ae 2 3 hdk O O O)<|ah (ae 2 4 hdk O O O)<|ah (ae 2 5 hdk O O O)<|aM)<|aN (ah (ae 3 4 hdk O O O)<|ah (ae 3 5 hdk O O O)<|aM)<|aN (ah (ae 4 5 hdk O O O)<|aM)<|aN (aM)<|fi) h λu u1 u2 first2 g7 h=>ck (b8 (b8 (b8 (b8 (au (atX hne1 hdx 4 O)<|au (atX hne2 hdx 5 O)<|b_)<|bU hne5 hdx 3 O O)<|bU hne4 hdx 2 O O)<|bU hne3 hdx 1 O O)<|bU hne0 hdx 0 O O)<|asZ (iZ first2) O<|nZ<|rZ<|tkZ h (λhg1 h=>ac<|aG O O hg1<|mvZ (iZ<|x+1) O<|nZ<|⟨((first2,(x+1),u,u1,u2),g7),(canon (aP<|fZ<|fn)<|sn),h⟩))
 exact xsZ<|aj<|mvZ (iZ first1) O<|asZ (iZ first1) O<|aE<|gv1 (hfr _ O)<|hQ _ _ _ _ _ h
theorem pU {x:GNode} {refs:List Int} {order:List Int} {place:List Int} {nodes:List GDNode} {unique:GMap Int} {memo:GMap Int} {q0 k0 g0 q1 k1 g1 q2 k2 g2 q3 k3 g3 q4 k4 g4 q5 k5 g5:Nat} (hdk:DK [(q0,k0),(q3,k3),(q4,k4),(q5,k5),(q1,k1),(q2,k2)]) {Q:List GDNode->GMap Int->GMap Int->Int->Prop} (h:gN x refs order place nodes unique memo Q) (hQ:∀r1 r2 r3 r4,∀h3,Q r1 r2 r3 r4->R (iZ r4) (stX S [(q0,k0,.arr 5 [.agg [.sl 1 q1 k1 g1 0 order.length,.sl 1 q2 k2 g2 0 place.length,.sl 3 q3 k3 h3 0 r1.length,.map q4 k4 g4,.map q5 k5 g5]],g0),(q3,k3,.arr 3 (List.map aX r1),h3),(q4,k4,a_ iZ zKt r2,g4),(q5,k5,a_ iZ zKt r3,g5),(q1,k1,.arr 1 (List.map iZ order),g1),(q2,k2,.arr 1 (List.map iZ place),g2)])) :
  Ctr prog 183 [.ptr q0 k0 g0 0 0,bb x,bt refs] (stX S [(q0,k0,.arr 5 [.agg [.sl 1 q1 k1 g1 0 order.length,.sl 1 q2 k2 g2 0 place.length,.sl 3 q3 k3 g3 0 nodes.length,.map q4 k4 g4,.map q5 k5 g5]],g0),(q3,k3,.arr 3 (List.map aX nodes),g3),(q4,k4,a_ iZ zKt unique,g4),(q5,k5,a_ iZ zKt memo,g5),(q1,k1,.arr 1 (List.map iZ order),g1),(q2,k2,.arr 1 (List.map iZ place),g2)]) R:=by
 refine aI func183 rfl ntmps183 results183 krZ (λrg hrg=>?_)
 have hdx:DX [(q0,k0,.arr 5 [.agg [.sl 1 q1 k1 g1 0 order.length,.sl 1 q2 k2 g2 0 place.length,.sl 3 q3 k3 g3 0 nodes.length,.map q4 k4 g4,.map q5 k5 g5]],g0),(q3,k3,.arr 3 (List.map aX nodes),g3),(q4,k4,a_ iZ zKt unique,g4),(q5,k5,a_ iZ zKt memo,g5),(q1,k1,.arr 1 (List.map iZ order),g1),(q2,k2,.arr 1 (List.map iZ place),g2)]:=hdk
 have hfr:=λX' e=>bY (S:=S) (rg:=rg) (X:=[(q0,k0,.arr 5 [.agg [.sl 1 q1 k1 g1 0 order.length,.sl 1 q2 k2 g2 0 place.length,.sl 3 q3 k3 g3 0 nodes.length,.map q4 k4 g4,.map q5 k5 g5]],g0),(q3,k3,.arr 3 (List.map aX nodes),g3),(q4,k4,a_ iZ zKt unique,g4),(q5,k5,a_ iZ zKt memo,g5),(q1,k1,.arr 1 (List.map iZ order),g1),(q2,k2,.arr 1 (List.map iZ place),g2)]) (X':=X') e hrg
 have hne0:=az hdx hrg 0 rfl
 have hne3:=az hdx hrg 1 rfl
 have hne4:=az hdx hrg 2 rfl
 have hne5:=az hdx hrg 3 rfl
 have hne1:=az hdx hrg 4 rfl
 have hne2:=az hdx hrg 5 rfl
 refine aj<|wZ rg<|bC (v:=bb x) O O (kk:=3) O dZ (λg6=>asZ (iZ 0) O<|nZ<|qZ<|aj<|ac<|aF ft O<|ac<|af (aZ 4 O) sz3 ag3 O O (v:=iZ x.D) O<|nZ<|bZ<|aj<|ac<|bK O O<|asZ (.bool<|x.D == 0) O<|nZ<|cZ h O (λhb h=>?_) (λhb h=>?_))
 ·exact aj<|ac<|aF dW O<|ac<|af (aZ 4 O) sz3 ag3 O O (v:=iZ x.K) O<|asZ (iZ x.K) O<|aE<|gv1 (hfr _ O)<|hQ _ _ _ _ _ h
 refine aj<|ac<|bK O O<|asZ (.bool<|x.D == 1) O<|nZ<|cZ h O (λhb1 h=>?_) (λhb1 h=>?_)
 ·exact aj<|mvZ (.ptr q0 k0 g0 0 0) O<|mvZ (bt refs) O<|tkZ h (λhg h=>ac<|aQ bJ sz3 dZ (λ_=>O) O O hg<|ac<|aL sz3 ag3 O O (v:=iZ (at' refs 0)) O<|ac<|clZ O<|eX (au (atX hne0 hdx 0 O)<|au (atX hne3 hdx 1 O)<|au (atX hne4 hdx 2 O)<|au (atX hne5 hdx 3 O)<|au (atX hne1 hdx 4 O)<|au (atX hne2 hdx 5 O)<|b_)<|hZ (aN (ah (ae 0 1 hdk O O O)<|ah (ae 0 2 hdk O O O)<|ah (ae 0 3 hdk O O O)<|ah (ae 0 4 hdk O O O)<|ah (ae 0 5 hdk O O O)<|aM)<|aN (ah (ae 1 2 hdk O O O)<|ah (ae 1 3 hdk O O O)<|ah (ae 1 4 hdk O O O)<|ah (ae 1 5 hdk O O O)<|aM)<|aN (ah (ae 2 3 hdk O O O)<|ah (ae 2 4 hdk O O O)<|ah (ae 2 5 hdk O O O)<|aM)<|aN (ah (ae 3 4 hdk O O O)<|ah (ae 3 5 hdk O O O)<|aM)<|aN (ah (ae 4 5 hdk O O O)<|aM)<|aN (aM)<|fi) h λu u1 u2 r g7 h=>ck (b8 (b8 (b8 (b8 (au (atX hne1 hdx 4 O)<|au (atX hne2 hdx 5 O)<|b_)<|bU hne5 hdx 3 O O)<|bU hne4 hdx 2 O O)<|bU hne3 hdx 1 O O)<|bU hne0 hdx 0 O O)<|asZ (iZ r) O<|aE<|gv1 (hfr _ O)<|hQ _ _ _ _ _ h)
 refine aj<|ac<|bK O O<|asZ (.bool<|x.D == 2) O<|nZ<|cZ h O (λhb2 h=>?_) (λhb2 h=>?_)
 ·exact aj<|mvZ (bt refs) O<|mvZ (.ptr q0 k0 g0 0 0) O<|wZ rg<|qq (vs:=[.ptr q0 k0 g0 0 0]) (us:=[]) O O<|ac<|clZ O<|eX (au (atX hne0 hdx 0 O)<|au (atX hne3 hdx 1 O)<|au (atX hne4 hdx 2 O)<|au (atX hne5 hdx 3 O)<|au (atX hne1 hdx 4 O)<|au (atX hne2 hdx 5 O)<|b_)<|pV (aN (ah (ae 0 1 hdk O O O)<|ah (ae 0 2 hdk O O O)<|ah (ae 0 3 hdk O O O)<|ah (ae 0 4 hdk O O O)<|ah (ae 0 5 hdk O O O)<|aM)<|aN (ah (ae 1 2 hdk O O O)<|ah (ae 1 3 hdk O O O)<|ah (ae 1 4 hdk O O O)<|ah (ae 1 5 hdk O O O)<|aM)<|aN (ah (ae 2 3 hdk O O O)<|ah (ae 2 4 hdk O O O)<|ah (ae 2 5 hdk O O O)<|aM)<|aN (ah (ae 3 4 hdk O O O)<|ah (ae 3 5 hdk O O O)<|aM)<|aN (ah (ae 4 5 hdk O O O)<|aM)<|aN (aM)<|fi) h λu3 u4 u5 r1 g8 h=>ck (b8 (b8 (b8 (b8 (au (atX hne1 hdx 4 O)<|au (atX hne2 hdx 5 O)<|b_)<|bU hne5 hdx 3 O O)<|bU hne4 hdx 2 O O)<|bU hne3 hdx 1 O O)<|bU hne0 hdx 0 O O)<|asZ (iZ r1) O<|aE<|gv1 (hfr _ O)<|hQ _ _ _ _ _ h
 refine aj<|ac<|bK O O<|asZ (.bool<|x.D == 3) O<|nZ<|cZ h O (λhb3 h=>?_) (λhb3 h=>?_)
 ·exact aj<|mvZ (bt refs) O<|mvZ (.ptr q0 k0 g0 0 0) O<|wZ rg<|qq (vs:=[.ptr q0 k0 g0 0 0]) (us:=[]) O O<|ac<|clZ O<|eX (au (atX hne0 hdx 0 O)<|au (atX hne3 hdx 1 O)<|au (atX hne4 hdx 2 O)<|au (atX hne5 hdx 3 O)<|au (atX hne1 hdx 4 O)<|au (atX hne2 hdx 5 O)<|b_)<|o6 (aN (ah (ae 0 1 hdk O O O)<|ah (ae 0 2 hdk O O O)<|ah (ae 0 3 hdk O O O)<|ah (ae 0 4 hdk O O O)<|ah (ae 0 5 hdk O O O)<|aM)<|aN (ah (ae 1 2 hdk O O O)<|ah (ae 1 3 hdk O O O)<|ah (ae 1 4 hdk O O O)<|ah (ae 1 5 hdk O O O)<|aM)<|aN (ah (ae 2 3 hdk O O O)<|ah (ae 2 4 hdk O O O)<|ah (ae 2 5 hdk O O O)<|aM)<|aN (ah (ae 3 4 hdk O O O)<|ah (ae 3 5 hdk O O O)<|aM)<|aN (ah (ae 4 5 hdk O O O)<|aM)<|aN (aM)<|fi) h λu6 u7 u8 r2 g9 h=>ck (b8 (b8 (b8 (b8 (au (atX hne1 hdx 4 O)<|au (atX hne2 hdx 5 O)<|b_)<|bU hne5 hdx 3 O O)<|bU hne4 hdx 2 O O)<|bU hne3 hdx 1 O O)<|bU hne0 hdx 0 O O)<|asZ (iZ r2) O<|aE<|gv1 (hfr _ O)<|hQ _ _ _ _ _ h
 refine aj<|ac<|bK O O<|asZ (.bool<|x.D == 5) O<|nZ<|cZ h O (λhb4 h=>?_) (λhb4 h=>?_)
 ·exact aj<|mvZ (bt refs) O<|mvZ (.ptr q0 k0 g0 0 0) O<|wZ rg<|qq (vs:=[.ptr q0 k0 g0 0 0]) (us:=[]) O O<|ac<|clZ O<|eX (au (atX hne0 hdx 0 O)<|au (atX hne3 hdx 1 O)<|au (atX hne4 hdx 2 O)<|au (atX hne5 hdx 3 O)<|au (atX hne1 hdx 4 O)<|au (atX hne2 hdx 5 O)<|b_)<|o5 (aN (ah (ae 0 1 hdk O O O)<|ah (ae 0 2 hdk O O O)<|ah (ae 0 3 hdk O O O)<|ah (ae 0 4 hdk O O O)<|ah (ae 0 5 hdk O O O)<|aM)<|aN (ah (ae 1 2 hdk O O O)<|ah (ae 1 3 hdk O O O)<|ah (ae 1 4 hdk O O O)<|ah (ae 1 5 hdk O O O)<|aM)<|aN (ah (ae 2 3 hdk O O O)<|ah (ae 2 4 hdk O O O)<|ah (ae 2 5 hdk O O O)<|aM)<|aN (ah (ae 3 4 hdk O O O)<|ah (ae 3 5 hdk O O O)<|aM)<|aN (ah (ae 4 5 hdk O O O)<|aM)<|aN (aM)<|fi) h λu9 u10 u11 r3 g10 h=>ck (b8 (b8 (b8 (b8 (au (atX hne1 hdx 4 O)<|au (atX hne2 hdx 5 O)<|b_)<|bU hne5 hdx 3 O O)<|bU hne4 hdx 2 O O)<|bU hne3 hdx 1 O O)<|bU hne0 hdx 0 O O)<|asZ (iZ r3) O<|aE<|gv1 (hfr _ O)<|hQ _ _ _ _ _ h
 exact kZ<|aj<|mvZ (.ptr q0 k0 g0 0 0) O<|mvZ (bt refs) O<|ac<|aF dW O<|ac<|af (aZ 4 O) sz3 ag3 O O (v:=iZ x.K) O<|ac<|clZ O<|eX (au (atX hne0 hdx 0 O)<|au (atX hne3 hdx 1 O)<|au (atX hne4 hdx 2 O)<|au (atX hne5 hdx 3 O)<|au (atX hne1 hdx 4 O)<|au (atX hne2 hdx 5 O)<|b_)<|pT (aN (ah (ae 0 1 hdk O O O)<|ah (ae 0 2 hdk O O O)<|ah (ae 0 3 hdk O O O)<|ah (ae 0 4 hdk O O O)<|ah (ae 0 5 hdk O O O)<|aM)<|aN (ah (ae 1 2 hdk O O O)<|ah (ae 1 3 hdk O O O)<|ah (ae 1 4 hdk O O O)<|ah (ae 1 5 hdk O O O)<|aM)<|aN (ah (ae 2 3 hdk O O O)<|ah (ae 2 4 hdk O O O)<|ah (ae 2 5 hdk O O O)<|aM)<|aN (ah (ae 3 4 hdk O O O)<|ah (ae 3 5 hdk O O O)<|aM)<|aN (ah (ae 4 5 hdk O O O)<|aM)<|aN (aM)<|fi) h λu12 u13 u14 r4 g11 h=>ck (b8 (b8 (b8 (b8 (au (atX hne1 hdx 4 O)<|au (atX hne2 hdx 5 O)<|b_)<|bU hne5 hdx 3 O O)<|bU hne4 hdx 2 O O)<|bU hne3 hdx 1 O O)<|bU hne0 hdx 0 O O)<|asZ (iZ r4) O<|aE<|gv1 (hfr _ O)<|hQ _ _ _ _ _ h
theorem rL {f:GFormula} {o:List Int} {Q:GDiagram->Option Int->Prop} (h:iT f o Q) (hQ:∀r1 r2,Q r1 r2->R (.tuple [fT r1,aY 82 r2]) S) :
  Ctr prog 109 [an f,bt o] S R:=by
 refine aI func109 rfl ntmps109 results109 krZ (λrg hrg=>?_)
 refine aj<|wZ rg<|bC (v:=an f) O O (kk:=3) O dZ (λg1=>wZ rg<|aW nF Bg (kk:=3) O (λg2=>asZ .niface O<|aU<|ac<|aw (aZ 2 O) ct dZ fE O O (v:=an f) O<|ac<|clZ O<|sD h λr r1 r2 h=>mvZ (.tuple [iZ r,iZ r1,aY 82 r2]) O<|ac<|ar (v:=iZ r) O O O<|ac<|ar (v:=iZ r1) O O O<|ac<|ar (v:=aY 82 r2) O O O<|asZ (iZ r) O<|asZ (iZ r1) O<|asZ (aY 82 r2) O<|nZ<|qZ<|aj<|mvZ (aY 82 r2) O<|ac<|cK gk (E:=82) O O O<|nZ<|cZ h O (λhb h=>?_) (λhb h=>?_)))
 ·exact aj<|ac<|bG uh nF vX uk iF (ps:=[]) O O (v:=.agg [.nil,.nil,iZ 0]) O<|mvZ (aY 82 r2) O<|ac<|ay (aZ 4 O) iF dZ O (w:=.agg [.nil,.nil,iZ 0]) O O O (v:=.agg [.nil,.nil,iZ 0]) O aV<|asZ (aY 82 r2) O<|aE<|bc (aZ 4 O) iF dZ tm O O (v:=.agg [.nil,.nil,iZ 0]) O<|aC (v:=aY 82 r2) O<|aK<|aO hrg (VW.tupL<|vl' (VW.aggL<|vl' (VW.nilL)<|vl' (VW.nilL)<|vZ<|vn)<|vZ<|vn)<|hQ _ _ h
 refine kZ<|qZ<|aj<|mvZ (bt o) O<|ac<|aF cd O<|ac<|af (aZ 2 O) sz3 ag3 O O (v:=iZ f.A) O<|ac<|clZ O<|tK h λerr h=>asZ (aY 82 err) O<|aU<|mvZ (aY 82 err) O<|ac<|cK gk (E:=82) O O O<|nZ<|cZ h O (λhb1 h=>?_) (λhb1 h=>?_)
 ·exact aj<|ac<|bG uh nF vX uk iF (ps:=[]) O O (v:=.agg [.nil,.nil,iZ 0]) O<|mvZ (aY 82 err) O<|ac<|ay (aZ 4 O) iF dZ O (w:=.agg [.nil,.nil,iZ 0]) O O O (v:=.agg [.nil,.nil,iZ 0]) O aV<|asZ (aY 82 err) O<|aE<|bc (aZ 4 O) iF dZ tm O O (v:=.agg [.nil,.nil,iZ 0]) O<|aC (v:=aY 82 err) O<|aK<|aO hrg (VW.tupL<|vl' (VW.aggL<|vl' (VW.nilL)<|vl' (VW.nilL)<|vZ<|vn)<|vZ<|vn)<|hQ _ _ h
 refine kZ<|jgZ (γ:=Nat×Nat) h (λy=>ba [(1,bt o),(2,.ptr rg 2 y.2.1 0 0),(4,.ptr rg 4 y.2.2 0 0)]) (λy=>stL S rg [(2,.arr 3 [an y.1],y.2.1),(4,.arr 3 [.agg [.nil,.nil,iZ 0]],y.2.2)]) (λy h=>?_) (λ_ h=>?_)
 ·obtain⟨x,⟨g3,g4⟩⟩:=y
  refine aj<|mvZ (bt o) O<|ac<|clZ O<|sH rg 5000000 5000001 5000002 5000003 5000004 h λorder place unique memo g5 g6 g7 g8 g9 h=>ck (b8 (b8 (b8 (b8 (b8 (b_) aV) aV) aV) aV) aV)<|asZ (.ptr rg 5000000 g5 0 0) O<|aU<|ac<|aF cd O<|ac<|af (aZ 2 O) sz3 ag3 O O (v:=iZ x.A) O<|ac<|aF b6 O<|ac<|af (aZ 2 O) eJ fv O O (v:=eL bb x.V) O<|ac<|aJ d5 O<|tkZ h (λhg h=>ac<|aG O O hg<|tkZ h (λhg1 h=>wZ rg<|gb bJ oA ok3 (enc:=iZ) (z':=0) gE (kk:=1) O O O hg1 (λg10=>asZ (.sl 1 rg 56 g10 0<|Int.toNat<|x.A+(x.V.length:Int)) O<|nZ<|qZ<|aj<|ac<|aF cd O<|ac<|af (aZ 2 O) sz3 ag3 O O (v:=iZ x.A) O<|mvZ (iZ 0) O<|nZ<|bZ<|Vc.matB 5000000 2 5000001002 3 (b:=λg11=>.agg [.sl 1 rg 5000001 g6 0 order.length,.sl 1 rg 5000002 g7 0 place.length,.sl 3 rg 5000001002 g11 0 0,.map rg 5000003 g8,.map rg 5000004 g9]) O O dZ dZ O (λg11=>?_))))
  refine lgZ h g11 (λy=>ba [(2,.ptr rg 2 g3 0 0),(4,.ptr rg 4 g4 0 0),(10,.ptr rg 5000000 g5 0 0),(11,.sl 1 rg 56 g10 0 y.1.2.1.length),(58,iZ x.A),(59,iZ y.1.1)]) (λy=>stL S rg [(2,.arr 3 [an x],g3),(4,.arr 3 [.agg [.nil,.nil,iZ 0]],g4),(56,.arr 1 (List.map iZ y.1.2.1),g10),(5000000,.arr 5 [.agg [.sl 1 rg 5000001 g6 0 order.length,.sl 1 rg 5000002 g7 0 place.length,.sl 3 rg 5000001002 y.2 0 y.1.2.2.2.length,.map rg 5000003 g8,.map rg 5000004 g9]],g5),(5000001,.arr 1 (List.map iZ order),g6),(5000002,.arr 1 (List.map iZ place),g7),(5000003,a_ iZ zKt y.1.2.2.1,g8),(5000004,a_ iZ zKt memo,g9),(5000001002,.arr 3 (List.map aX y.1.2.2.2),y.2)]) (EWk.trans (EWk.ow (k:=5000000) (o':=.arr 5 [.agg [.sl 1 rg 5000001 g6 0 order.length,.sl 1 rg 5000002 g7 0 place.length,.sl 3 rg 5000001002 g11 0 ([].length),.map rg 5000003 g8,.map rg 5000004 g9]]) O<|OW.one<|VWL.vwc<|vZ<|vZ<|vl' (VW.slen lzZ)<|vZ<|vZ<|vn)<|canon (fZ<|fZ<|fZ<|fc (VW.slen lzZ)<|fZ<|fZ<|fn)<|cC O O O O<|cC O O O O<|sc O<|sn) (λy _ h=>?_)
  obtain⟨⟨x1,refs,x2,x3⟩,g12⟩:=y
  refine aj<|ac<|bj O O<|nZ<|qZ<|cZ h O (λhb2 h=>?_) (λhb2 h=>?_)
  ·exact kZ<|qZ<|bZ<|aj<|mvZ (iZ x1) O<|asZ (iZ x1) O<|nZ<|rZ<|mvZ (.sl 1 rg 56 g10 0 refs.length) O<|mvZ (iZ x1) O<|mvZ (.ptr rg 5000000 g5 0 0) O<|mvZ (iZ x1) O<|ac<|clZ O<|eX (au (aZ 5000000 O)<|au (aZ 5000001002 O)<|au (aZ 5000003 O)<|au (aZ 5000001 O)<|au (aZ 5000002 O)<|au (aZ 5000004 O)<|b_)<|kC (aN (ah (bE O)<|ah (bE O)<|ah (bE O)<|ah (bE O)<|ah (bE O)<|aM)<|aN (ah (bE O)<|ah (bE O)<|ah (bE O)<|ah (bE O)<|aM)<|aN (ah (bE O)<|ah (bE O)<|ah (bE O)<|aM)<|aN (ah (bE O)<|ah (bE O)<|aM)<|aN (ah (bE O)<|aM)<|aN (aM)<|fi) h λu u1 r3 g13 h=>ck (b8 (b8 (b8 (au (aZ 5000001 O)<|au (aZ 5000002 O)<|au (aZ 5000004 O)<|b_) aV) aV) aV)<|tkZ h (λhi h=>ac<|bm bJ sz3 dZ O O hi<|ac<|bR (aZ 56 O) sz3 dZ (x':=r3) (λ_=>O) O O (bH hi lzZ) O O aV<|nZ<|rZ<|tkZ h (λhg2 h=>ac<|aG O O hg2<|mvZ (iZ<|x1+1) O<|nZ<|⟨(((x1+1),(bu refs x1 r3),u1,u),g13),(canon (fZ<|fZ<|fZ<|fc (VW.slen lzZ)<|fZ<|fZ<|fn)<|cC O O O O<|cC O O O O<|sc O<|sn),h⟩))
  refine xsZ<|qZ<|aj<|ac<|aF b6 O<|ac<|af (aZ 2 O) eJ fv O O (v:=eL bb x.V) O<|ac<|aJ d5 O<|mvZ (iZ 0) O<|nZ<|bZ<|lgZ h g12 (λy=>ba [(2,.ptr rg 2 g3 0 0),(4,.ptr rg 4 g4 0 0),(10,.ptr rg 5000000 g5 0 0),(11,.sl 1 rg 56 g10 0 y.1.2.1.length),(70,eL bb x.V),(71,iZ (x.V.length:Int)),(72,iZ y.1.1)]) (λy=>stL S rg [(2,.arr 3 [an x],g3),(4,.arr 3 [.agg [.nil,.nil,iZ 0]],g4),(56,.arr 1 (List.map iZ y.1.2.1),g10),(5000000,.arr 5 [.agg [.sl 1 rg 5000001 g6 0 order.length,.sl 1 rg 5000002 g7 0 place.length,.sl 3 rg 5000001002 y.2 0 y.1.2.2.2.2.length,.map rg 5000003 g8,.map rg 5000004 g9]],g5),(5000001,.arr 1 (List.map iZ order),g6),(5000002,.arr 1 (List.map iZ place),g7),(5000003,a_ iZ zKt y.1.2.2.1,g8),(5000004,a_ iZ zKt y.1.2.2.2.1,g9),(5000001002,.arr 3 (List.map aX y.1.2.2.2.2),y.2)]) (canon (aP<|fZ<|fZ<|fZ<|fn)<|cC O O O O<|cC O O O O<|sc O<|sn) (λy _ h=>?_)
  obtain⟨⟨x4,refs1,x5,x6,x7⟩,g14⟩:=y
  refine aj<|ac<|bj O O<|nZ<|qZ<|cZ h O (λhb3 h=>?_) (λhb3 h=>?_)
  ·refine kZ<|qZ<|bZ<|aj<|mvZ (iZ x4) O<|tkZ h (λhg3 h=>ac<|aQ d5 cU dZ (λ_=>O) O O hg3<|ac<|cn cU dZ rP O O (v:=bb (at' x.V x4)) O<|wZ rg<|aW fx k_ (kk:=3) O (λg15=>asZ (iZ x4) O<|ac<|ay (aZ 14 O) cU dZ O (w:=bb (at' x.V x4)) O O O (v:=bb (at' x.V x4)) O aV<|aU<|asZ .nil O<|nZ<|qZ<|aj<|ac<|aF eB O<|ac<|af (aZ 14 O) fo jc O O (v:=bt ((at' x.V x4).M)) O (ac<|aJ bJ O<|mvZ (iZ 0) O<|nZ<|bZ<|Vc.mat 15 90 1 O dZ (λg16=>?_))))
   refine lgZ h g16 (λy=>ba [(2,.ptr rg 2 g3 0 0),(4,.ptr rg 4 g4 0 0),(10,.ptr rg 5000000 g5 0 0),(11,.sl 1 rg 56 g10 0 refs1.length),(13,iZ x4),(14,.ptr rg 14 g15 0 0),(15,.sl 1 rg 90 y.2 0 y.1.2.length),(70,eL bb x.V),(71,iZ (x.V.length:Int)),(72,iZ x4),(78,bt ((at' x.V x4).M)),(79,iZ (((at' x.V x4).M).length:Int)),(80,iZ y.1.1)]) (λy=>stL S rg [(2,.arr 3 [an x],g3),(4,.arr 3 [.agg [.nil,.nil,iZ 0]],g4),(14,.arr 3 [bb (at' x.V x4)],g15),(56,.arr 1 (List.map iZ refs1),g10),(90,.arr 1 (List.map iZ y.1.2),y.2),(5000000,.arr 5 [.agg [.sl 1 rg 5000001 g6 0 order.length,.sl 1 rg 5000002 g7 0 place.length,.sl 3 rg 5000001002 g14 0 x7.length,.map rg 5000003 g8,.map rg 5000004 g9]],g5),(5000001,.arr 1 (List.map iZ order),g6),(5000002,.arr 1 (List.map iZ place),g7),(5000003,a_ iZ zKt x5,g8),(5000004,a_ iZ zKt x6,g9),(5000001002,.arr 3 (List.map aX x7),g14)]) (canon (aP<|fZ<|fZ<|fc (VW.slen lzZ)<|aP<|fZ<|fZ<|fn)<|cC O O O O<|cC O O O O<|sc O<|sc O<|sc O<|sn) (λy _ h=>?_)
   obtain⟨⟨x8,args⟩,g17⟩:=y
   refine aj<|ac<|bj O O<|nZ<|qZ<|cZ h O (λhb4 h=>?_) (λhb4 h=>?_)
   ·exact kZ<|qZ<|bZ<|aj<|tkZ h (λhg4 h=>ac<|aQ bJ sz3 dZ (λ_=>O) O O hg4<|ac<|aL sz3 ag3 O O (v:=iZ (at' ((at' x.V x4).M) x8)) O (asZ (iZ<|at' ((at' x.V x4).M) x8) O<|nZ<|rZ<|mvZ (.sl 1 rg 90 g17 0 args.length) O<|mvZ (.sl 1 rg 56 g10 0 refs1.length) O<|mvZ (iZ<|at' ((at' x.V x4).M) x8) O<|tkZ h (λhi1 h=>ac<|bm bJ sz3 dZ O O hi1<|ac<|cc (aZ 56 O) sz3 ag3 O (bH hi1 lzZ) O (v:=iZ (at' refs1<|at' ((at' x.V x4).M) x8)) O (wZ rg<|bq bJ ok3 gE (es:=[iZ (at' refs1<|at' ((at' x.V x4).M) x8)]) O (kk:=1) O O O O O O (λg18=>tkZ h (λhg5 h=>wZ rg<|cS bJ oA ok3 gE (es:=args) (xs:=[(at' refs1<|at' ((at' x.V x4).M) x8)]) (enc:=iZ) (aZ 90 O) lzZ (bQ (aZ 89 O) lzZ) (kk:=1) O O (λ_=>O) (λ_=>O) hg5 O (λ_=>aV) (λg19=>asZ (.sl 1 rg 90 g19 0<|(args++[(at' refs1<|at' ((at' x.V x4).M) x8)]).length) O (nZ<|rZ<|tkZ h (λhg6 h=>ac<|aG O O hg6<|mvZ (iZ<|x8+1) O<|nZ<|⟨(((x8+1),(args++[(at' refs1<|at' ((at' x.V x4).M) x8)])),g19),(canon (aP<|aP<|aP<|fZ<|fn)<|cC O O O O<|cC O O O O<|sc O<|sc O<|sc O<|sn),h⟩)))))))))
   refine xsZ<|qZ<|Ep (bw (k:=90) (xs:=List.map iZ args) O (es:=[(2,.ptr rg 2 g3 0 0),(4,.ptr rg 4 g4 0 0),(10,.ptr rg 5000000 g5 0 0),(11,.sl 1 rg 56 g10 0 refs1.length),(13,iZ x4),(14,.ptr rg 14 g15 0 0),(15,bt args),(70,eL bb x.V),(71,iZ (x.V.length:Int)),(72,iZ x4)]) (fZ<|fZ<|fZ<|fc (gh O)<|fZ<|fZ<|fc (bk O)<|fZ<|fZ<|fZ<|fn) (m:=[(2,.arr 3 [an x],g3),(4,.arr 3 [.agg [.nil,.nil,iZ 0]],g4),(14,.arr 3 [bb (at' x.V x4)],g15),(56,.arr 1 (List.map iZ refs1),g10),(5000000,.arr 5 [.agg [.sl 1 rg 5000001 g6 0 order.length,.sl 1 rg 5000002 g7 0 place.length,.sl 3 rg 5000001002 g14 0 x7.length,.map rg 5000003 g8,.map rg 5000004 g9]],g5),(5000001,.arr 1 (List.map iZ order),g6),(5000002,.arr 1 (List.map iZ place),g7),(5000003,a_ iZ zKt x5,g8),(5000004,a_ iZ zKt x6,g9),(5000001002,.arr 3 (List.map aX x7),g14)]) (cC O O O O<|cC O O O O<|sc O<|sc O<|sn)) (tkZ h (λhg7 h=>?_))
   obtain⟨u2,u3,u4,r4,hc,h⟩:=h
   refine tkZ h (λhi2 h=>Vc.drawn' bA rg (fH [(8,wc (λ_=>iZ r4) [(rg,5000001),(rg,5000002)] [(rg,5000000),(rg,5000001002),(rg,5000003),(rg,5000004)] (λgm=>[(rg,5000000,.arr 5 [.agg [.sl 1 rg 5000001 g6 0 order.length,.sl 1 rg 5000002 g7 0 place.length,.sl 3 rg 5000001002 (gm 0) 0 u2.length,.map rg 5000003 g8,.map rg 5000004 g9]],g5),(rg,5000001002,.arr 3 (List.map aX u2),(gm 0)),(rg,5000003,a_ iZ zKt u3,g8),(rg,5000004,a_ iZ zKt u4,g9)]))]) krZ (dP O O<|aA (v:=.sl 1 rg 56 g10 0 refs1.length) O<|dP O O<|aF cd O<|dL (E:=([(rg,2)],[])) O O zSm (cfn) (af (aZ 2 O) sz3 ag3 O O (v:=iZ x.A) O<|dP O O<|aA (v:=iZ x4) O<|dP O O<|aG O O hg7<|dP O O<|aA (v:=.ptr rg 5000000 g5 0 0) O<|dL (E:=([(rg,14)],[])) O O zSm (cfa zAp<|cfn) (aw (aZ 14 O) cU dZ rP O O (v:=bb (at' x.V x4)) O<|dP O O<|aA (v:=bt args) O ?_))))
   refine dCE (vs:=[.ptr rg 5000000 g5 0 0,bb (at' x.V x4),bt args]) (V:=λ_=>iZ r4) (rd:=[(rg,5000001),(rg,5000002)]) (wk:=[(rg,5000000),(rg,5000001002),(rg,5000003),(rg,5000004)]) (wr:=λgm=>[(rg,5000000,.arr 5 [.agg [.sl 1 rg 5000001 g6 0 order.length,.sl 1 rg 5000002 g7 0 place.length,.sl 3 rg 5000001002 (gm 0) 0 u2.length,.map rg 5000003 g8,.map rg 5000004 g9]],g5),(rg,5000001002,.arr 3 (List.map aX u2),(gm 0)),(rg,5000003,a_ iZ zKt u3,g8),(rg,5000004,a_ iZ zKt u4,g9)]) rfl (vZ<|vZ<|vZ<|vn) rfl (cfo krZ<|cfa zAp<|cfn) zSm (λ_=>rfl) (λS' hA hB=>eX (au (ag hB 0 rfl<|aZ 5000000 rfl)<|au (ag hB 1 rfl<|aZ 5000001002 rfl)<|au (ag hB 2 rfl<|aZ 5000003 rfl)<|au (ag hB 3 rfl<|aZ 5000004 rfl)<|au (ag hA 0 rfl<|aZ 5000001 rfl)<|au (ag hA 1 rfl<|aZ 5000002 rfl)<|b_)<|pU (aN (ah (bE rfl)<|ah (bE rfl)<|ah (bE rfl)<|ah (bE rfl)<|ah (bE rfl)<|aM)<|aN (ah (bE rfl)<|ah (bE rfl)<|ah (bE rfl)<|ah (bE rfl)<|aM)<|aN (ah (bE rfl)<|ah (bE rfl)<|ah (bE rfl)<|aM)<|aN (ah (bE rfl)<|ah (bE rfl)<|aM)<|aN (ah (bE rfl)<|aM)<|aN (aM)<|fi) hc (λ_ _ _ _ h3 he=>by obtain⟨rfl,rfl,rfl,rfl⟩:=he;exact⟨λi=>[h3].getD i 0,rfl,tr (tr<|tr<|tr<|au (ag hA 0 rfl<|aZ 5000001 rfl)<|au (ag hA 1 rfl<|aZ 5000002 rfl)<|b_)⟩)) (λgm=>?_)
   refine je (ql (ql (ql (ql (ux) aV) aV) aV) aV)<|dP O O<|bm bJ sz3 dZ O O hi2<|dL (E:=([],[(rg,56)])) O O zSm (cfo krZ<|cfo krZ<|cfo krZ<|cfn) (bR (aZ 56 O) sz3 dZ (x':=r4) (λ_=>O) O O (bH hi2 lzZ) O O aV<|dN<|aj<|mvZ (.ptr rg 5000000 g5 0 0) O<|mvZ (.sl 1 rg 56 g10 0 refs1.length) O<|ac<|aF cd O<|ac<|af (aZ 2 O) sz3 ag3 O O (v:=iZ x.A) O<|mvZ (iZ x4) O<|tkZ h (λhg8 h=>ac<|aG O O hg8<|tkZ h (λhi3 h=>ac<|bm bJ sz3 dZ O O hi3<|ac<|cc (aZ 56 O) sz3 ag3 O (bH hi3 lzZ) O (v:=iZ (at' (bu refs1 (x.A+x4) r4)<|x.A+x4)) O (ac<|clZ O<|eX (au (aZ 5000000 O)<|au (aZ 5000001 O)<|au (aZ 5000002 O)<|au (aZ 5000001002 O)<|au (aZ 5000003 O)<|au (aZ 5000004 O)<|b_)<|kU (aN (ah (bE O)<|ah (bE O)<|ah (bE O)<|ah (bE O)<|ah (bE O)<|aM)<|aN (ah (bE O)<|ah (bE O)<|ah (bE O)<|ah (bE O)<|aM)<|aN (ah (bE O)<|ah (bE O)<|ah (bE O)<|aM)<|aN (ah (bE O)<|ah (bE O)<|aM)<|aN (ah (bE O)<|aM)<|aN (aM)<|fi) h λr5 h=>ck (au (aZ 5000000 O)<|au (aZ 5000001 O)<|au (aZ 5000002 O)<|au (aZ 5000001002 O)<|au (aZ 5000003 O)<|au (aZ 5000004 O)<|b_)<|ac<|gK O<|nZ<|cZ h O (λhb5 h=>?_) (λhb5 h=>?_)))))
   ·exact aj<|ac<|bG uh nF vX uk iF (ps:=[]) O O (v:=.agg [.nil,.nil,iZ 0]) O<|ac<|cm (by rw[gQ];trivial) (v:=iZ 4) O<|ac<|ay (aZ 4 O) iF dZ O (w:=.agg [.nil,.nil,iZ 0]) O O O (v:=.agg [.nil,.nil,iZ 0]) O aV<|asZ (.iface 82<|iZ 4) O<|aE<|bc (aZ 4 O) iF dZ tm O O (v:=.agg [.nil,.nil,iZ 0]) O<|aC (v:=.iface 82 (iZ 4)) O<|aK<|aO hrg (VW.tupL<|vl' (VW.aggL<|vl' (VW.nilL)<|vl' (VW.nilL)<|vZ<|vn)<|vZ<|vn)<|hQ _ _ h
   exact kZ<|rZ<|tkZ h (λhg9 h=>ac<|aG O O hg9<|mvZ (iZ<|x4+1) O<|nZ<|⟨(((x4+1),(bu refs1 (x.A+x4) r4),u3,u4,u2),(gm 0)),(canon (fZ<|fZ<|fZ<|fc (VW.slen lzZ)<|fZ<|fZ<|fZ<|fn)<|cC O O O O<|cC O O O O<|sc O<|sn),h⟩)
  exact xsZ<|aj<|mvZ (.ptr rg 5000000 g5 0 0) O<|mvZ (.sl 1 rg 56 g10 0 refs1.length) O<|ac<|aF jA O<|ac<|af (aZ 2 O) sz3 ag3 O O (v:=iZ x.F) O<|tkZ h (λhi4 h=>ac<|bm bJ sz3 dZ O O hi4<|ac<|cc (aZ 56 O) sz3 ag3 O (bH hi4 lzZ) O (v:=iZ (at' refs1 x.F)) O<|ac<|clZ O<|eX (au (aZ 5000000 O)<|au (aZ 5000001 O)<|au (aZ 5000002 O)<|au (aZ 5000001002 O)<|au (aZ 5000003 O)<|au (aZ 5000004 O)<|b_)<|kz (aN (ah (bE O)<|ah (bE O)<|ah (bE O)<|ah (bE O)<|ah (bE O)<|aM)<|aN (ah (bE O)<|ah (bE O)<|ah (bE O)<|ah (bE O)<|aM)<|aN (ah (bE O)<|ah (bE O)<|ah (bE O)<|aM)<|aN (ah (bE O)<|ah (bE O)<|aM)<|aN (ah (bE O)<|aM)<|aN (aM)<|fi) h λr6 h=>ck (au (aZ 5000000 O)<|au (aZ 5000001 O)<|au (aZ 5000002 O)<|au (aZ 5000001002 O)<|au (aZ 5000003 O)<|au (aZ 5000004 O)<|b_)<|ac<|ay (aZ 4 O) iF dZ O (w:=fT r6) O O O (v:=fT r6) O aV<|asZ .niface O<|aE<|bc (aZ 4 O) iF dZ tm O O (v:=fT r6) O<|aC (v:=.niface) O<|aK<|aO hrg (VW.tupL<|vZ<|vZ<|vn)<|hQ _ _ h)
 refine aj<|mvZ (iZ r) O<|ac<|c9 O O<|nZ<|cZ h O (λhb6 h=>?_) (λhb6 h=>?_)
 ·refine aj<|ac<|aw (aZ 2 O) ct dZ fE O O (v:=an f) O<|ac<|clZ O<|sC h λr7 r8 h=>mvZ (.tuple [an r7,aY 82 r8]) O<|ac<|ar (v:=an r7) O O O<|ac<|ar (v:=aY 82 r8) O O O<|ac<|ay (aZ 2 O) ct dZ O (w:=an r7) O O O (v:=an r7) O aV<|asZ (aY 82 r8) O<|aU<|mvZ (aY 82 r8) O<|ac<|cK gk (E:=82) O O O<|nZ<|cZ h O (λhb7 h=>?_) (λhb7 h=>?_)
  ·exact aj<|ac<|bG uh nF vX uk iF (ps:=[]) O O (v:=.agg [.nil,.nil,iZ 0]) O<|mvZ (aY 82 r8) O<|ac<|ay (aZ 4 O) iF dZ O (w:=.agg [.nil,.nil,iZ 0]) O O O (v:=.agg [.nil,.nil,iZ 0]) O aV<|asZ (aY 82 r8) O<|aE<|bc (aZ 4 O) iF dZ tm O O (v:=.agg [.nil,.nil,iZ 0]) O<|aC (v:=aY 82 r8) O<|aK<|aO hrg (VW.tupL<|vl' (VW.aggL<|vl' (VW.nilL)<|vl' (VW.nilL)<|vZ<|vn)<|vZ<|vn)<|hQ _ _ h
  exact kZ<|⟨(r7,(g1,g2)),(canon (fZ<|fZ<|fZ<|fn)<|sc O<|sc O<|sn),h⟩
 exact rZ<|ac<|aF b6 O<|ac<|ay (aZ 2 O) eJ dZ O (w:=.nil) O O O (v:=.agg [iZ f.A,.nil,iZ f.F]) O aV<|nZ<|⟨((⟨f.A,[],f.F⟩:GFormula),(g1,g2)),(EWk.trans (EWk.ow (k:=2) (o':=.arr 3 [an (⟨f.A,[],f.F⟩:GFormula)]) O<|OW.one<|VWL.vwc<|vZ<|vl' (VW.nilL)<|vZ<|vn)<|canon (fZ<|fZ<|fZ<|fn)<|sc O<|sc O<|sn),h⟩
end Go.Proofs.YtnjgdkfhgmebjaaGreat
namespace Go.Proofs.YtnjgdkfhgmebjaaGreat
open Go.Gg Tryz
set_option maxRecDepth 100000
variable {S:St} {R:AV->St->Prop}
theorem pN {x:GRat} {Q:Bool->Prop} (h:mA x Q) (hQ:∀r1,Q r1->R (AV.bool r1) S) :
  Ctr prog 177 [am x] S R:=by
 refine aI func177 rfl ntmps177 results177 krZ (λrg hrg=>?_)
 exact aj<|wZ rg<|bC (v:=am x) O O (kk:=3) O dZ (λg1=>asZ (.bool false) O<|aU<|ac<|aw (aZ 1 O) aS dZ bz O O (v:=am x) O<|ac<|clZ O<|jr h λr h=>ac<|gK O<|asZ (.bool<|!r) O<|aE<|gv1 hrg<|hQ _ h)
theorem eg {s:List GRat} {Q:Int->Prop} (h:bO s Q) (hQ:∀r1,Q r1->R (iZ r1) S) :
  Ctr prog 239 [eL am s,.fn (.func 177) [] []] S R:=by
 refine aI func239 rfl ntmps239 results239 krZ (λrg hrg=>?_)
 refine aj<|asZ (iZ 0) O<|nZ<|qZ<|aj<|mvZ (eL am s) O<|ac<|aJ dM O<|mvZ (iZ 0) O<|nZ<|bZ<|lpZ h (λy=>ba [(0,eL am s),(1,.fn (.func 177) [] []),(7,iZ (s.length:Int)),(8,iZ y)]) (λy=>stL S rg []) (canon (aP<|fn)<|sn) (λx _ h=>aj<|ac<|bj O O<|nZ<|qZ<|cZ h O (λhb h=>?_) (λhb h=>?_))
 ·refine kZ<|qZ<|bZ<|aj<|mvZ (iZ x) O<|asZ (iZ x) O<|aU<|mvZ (.fn (.func 177) [] []) O<|mvZ (eL am s) O<|mvZ (iZ x) O<|tkZ h (λhg h=>ac<|aQ dM aS dZ (λ_=>O) O O hg<|ac<|cn aS dZ bz O O (v:=am (at' s x)) O<|ac<|clZ O<|pN h λr h=>nZ<|cZ h O (λhb1 h=>?_) (λhb1 h=>?_))
  ·exact aj<|mvZ (iZ x) O<|asZ (iZ x) O<|aE<|gv1 hrg<|hQ _ h
  exact kZ<|rZ<|tkZ h (λhg1 h=>ac<|aG O O hg1<|mvZ (iZ<|x+1) O<|nZ<|⟨(x+1),(canon (aP<|fn)<|sn),h⟩)
 exact xsZ<|aj<|asZ (iZ<|-1) O<|aE<|gv1 hrg<|hQ _ h
theorem dD {s:List GRat} {Q:Bool->Prop} (h:bI s Q) (hQ:∀r1,Q r1->R (AV.bool r1) S) :
  Ctr prog 159 [eL am s,.fn (.func 177) [] []] S R:=by
 refine aI func159 rfl ntmps159 results159 krZ (λrg hrg=>?_)
 exact aj<|asZ (.bool false) O<|aU<|mvZ (eL am s) O<|mvZ (.fn (.func 177) [] []) O<|ac<|clZ O<|eg h λr h=>ac<|fB O O<|asZ (.bool<|decide<|0<=r) O<|aE<|gv1 hrg<|hQ _ h
theorem qJ {p:List GRat} {vars:Int} {Q:Option Int->Prop} (h:kG p vars Q) (hQ:∀r1,Q r1->R (aY 82 r1) S) :
  Ctr prog 107 [eL am p,iZ vars] S R:=by
 refine aI func107 rfl ntmps107 results107 krZ (λrg hrg=>?_)
 refine aj<|asZ .niface O<|nZ<|qZ<|bZ<|aj<|mvZ (eL am p) O<|ac<|aJ dM O<|mvZ (iZ vars) O<|ac<|c8 O O<|asZ (.bool<|(p.length:Int) != vars) O<|nZ<|cZ h O (λhb h=>?_) (λhb h=>?_)
 ·exact aj<|ac<|cm (by rw[gQ];trivial) (v:=iZ 11) O<|asZ (.iface 82<|iZ 11) O<|aE<|gv1 hrg<|hQ _ h
 refine aj<|mvZ (eL am p) O<|ac<|clZ O<|dD h λr h=>asZ (.bool r) O<|nZ<|cZ h O (λhb1 h=>?_) (λhb1 h=>?_)
 ·exact aj<|ac<|cm (by rw[gQ];trivial) (v:=iZ 3) O<|asZ (.iface 82<|iZ 3) O<|aE<|gv1 hrg<|hQ _ h
 exact kZ<|aj<|asZ .niface O<|aE<|gv1 hrg<|hQ _ h
theorem uw {v:List GRat} {r:Int} {Q:GRat->Prop} (h:nM v r Q) (hQ:∀r1,Q r1->R (am r1) S) :
  Ctr prog 110 [eL am v,iZ r] S R:=by
 refine aI func110 rfl ntmps110 results110 krZ (λrg hrg=>?_)
 refine aj<|wZ rg<|aW bF dh (kk:=3) O (λg1=>nZ<|qZ<|aj<|mvZ (iZ r) O<|ac<|bj O O<|nZ<|cZ h O (λhb h=>?_) (λhb h=>?_))
 ·exact aj<|mvZ (iZ r) O<|ac<|clZ O<|gt h λr1 h=>ac<|ay (aZ 4 O) aS dZ O (w:=am r1) O O O (v:=am r1) O aV<|aE<|bc (aZ 4 O) aS dZ bz O O (v:=am r1) O<|aK<|goZ hrg<|hQ _ h
 exact kZ<|aj<|mvZ (eL am v) O<|mvZ (iZ r) O<|tkZ h (λhg h=>ac<|bW O O hg<|tkZ h (λhg1 h=>ac<|aQ dM aS dZ (λ_=>O) O O hg1<|ac<|cn aS dZ bz O O (v:=am (at' v<|r-2)) O (ac<|ay (aZ 4 O) aS dZ O (w:=am (at' v<|r-2)) O O O (v:=am (at' v<|r-2)) O aV (aE<|bc (aZ 4 O) aS dZ bz O O (v:=am (at' v<|r-2)) O (aK<|goZ hrg<|hQ _ h)))))
theorem mz {r:Int} {v:List GRat} {q0 k0 g0:Nat} (hdk:DK [(q0,k0)]) {Q:GRat->Prop} (h:kF r v Q) (hQ:∀r1,Q r1->R (am r1) (stX S [(q0,k0,.arr 3 (List.map am v),g0)])) :
  Ctr prog 110 [.sl 3 q0 k0 g0 0 v.length,iZ r] (stX S [(q0,k0,.arr 3 (List.map am v),g0)]) R:=by
 refine aI func110 rfl ntmps110 results110 krZ (λrg hrg=>?_)
 have hdx:DX [(q0,k0,.arr 3 (List.map am v),g0)]:=hdk
 have hfr:=λX' e=>bY (S:=S) (rg:=rg) (X:=[(q0,k0,.arr 3 (List.map am v),g0)]) (X':=X') e hrg
 have hne0:=az hdx hrg 0 rfl
 refine aj<|wZ rg<|aW bF dh (kk:=3) O (λg1=>nZ<|qZ<|aj<|mvZ (iZ r) O<|ac<|bj O O<|nZ<|cZ h O (λhb h=>?_) (λhb h=>?_))
 ·exact aj<|mvZ (iZ r) O<|ac<|clZ O<|gt h λr1 h=>ac<|ay (aZ 4 O) aS dZ O (w:=am r1) O O O (v:=am r1) O aV<|aE<|bc (aZ 4 O) aS dZ bz O O (v:=am r1) O<|aK<|goZ (hfr _ O)<|hQ _ h
 exact kZ<|aj<|mvZ (.sl 3 q0 k0 g0 0 v.length) O<|mvZ (iZ r) O<|tkZ h (λhg h=>ac<|bW O O hg<|tkZ h (λhi h=>ac<|bm dM aS dZ O O hi<|ac<|np (atX hne0 hdx 0 O) aS dZ bz O (bH hi lzZ) O (v:=am (at' v<|r-2)) O (ac<|ay (aZ 4 O) aS dZ O (w:=am (at' v<|r-2)) O O O (v:=am (at' v<|r-2)) O aV (aE<|bc (aZ 4 O) aS dZ bz O O (v:=am (at' v<|r-2)) O (aK<|goZ (hfr _ O)<|hQ _ h)))))
theorem pM {n:GDNode} {p:List GRat} {v:List GRat} {q0 k0 g0:Nat} (hdk:DK [(q0,k0)]) {Q:GRat->Prop} (h:jk n p v Q) (hQ:∀r1,Q r1->R (am r1) (stX S [(q0,k0,.arr 3 (List.map am v),g0)])) :
  Ctr prog 186 [aX n,eL am p,.sl 3 q0 k0 g0 0 v.length] (stX S [(q0,k0,.arr 3 (List.map am v),g0)]) R:=by
 refine aI func186 rfl ntmps186 results186 krZ (λrg hrg=>?_)
 have hdx:DX [(q0,k0,.arr 3 (List.map am v),g0)]:=hdk
 have hfr:=λX' e=>bY (S:=S) (rg:=rg) (X:=[(q0,k0,.arr 3 (List.map am v),g0)]) (X':=X') e hrg
 have hne0:=az hdx hrg 0 rfl
 refine aj<|wZ rg<|bC (v:=aX n) O O (kk:=3) O dZ (λg1=>wZ rg<|aW bF dh (kk:=3) O (λg2=>aU<|mvZ (eL am p) O<|ac<|aF yb O<|ac<|af (aZ 3 O) sz3 ag3 O O (v:=iZ n.H) O<|tkZ h (λhg h=>ac<|aQ dM aS dZ (λ_=>O) O O hg<|ac<|cn aS dZ bz O O (v:=am (at' p n.H)) O<|wZ rg<|aW bF dh (kk:=3) O (λg3=>ac<|ay (aZ 7 O) aS dZ O (w:=am (at' p n.H)) O O O (v:=am (at' p n.H)) O aV<|nZ<|qZ ?_))))
 obtain⟨r,hc,h⟩:=h
 obtain⟨r1,hc1,h⟩:=h
 obtain⟨r2,hc2,h⟩:=h
 obtain⟨r3,hc3,h⟩:=h
 obtain⟨r4,hc4,h⟩:=h
 obtain⟨r5,hc5,h⟩:=h
 obtain⟨r6,hc6,h⟩:=h
 refine Vc.drawn' bA rg (fH [(0,pc (am r)),(2,pc (am r1)),(6,wc (λ_=>am r2) [(q0,k0)] [] (λ_=>[])),(7,pc (am r3)),(12,wc (λ_=>am r4) [(q0,k0)] [] (λ_=>[])),(13,pc (am r5)),(14,pc (am r6))]) krZ (dC (vs:=[iZ 1]) O (vZ<|vn) (λ_=>gt hc (λ_ hr=>⟨by rw[hr],rfl⟩)) O<|dL (E:=([(rg,7)],[])) O O zSm (cfn) (aw (aZ 7 O) aS dZ bz O O (v:=am (at' p n.H)) O<|dC (vs:=[am r,am (at' p n.H)]) O (vZ<|vZ<|vn) (λ_=>il hc1 (λ_ hr=>⟨by rw[hr],rfl⟩)) O<|dP O O<|aA (v:=.sl 3 q0 k0 g0 0 v.length) O<|dP O O<|aF ua O<|dL (E:=([(rg,3)],[])) O O zSm (cfa zAp<|cfn) (af (aZ 3 O) sz3 ag3 O O (v:=iZ n.W) O<|dCE (vs:=[.sl 3 q0 k0 g0 0 v.length,iZ n.W]) (V:=λ_=>am r2) (rd:=[(q0,k0)]) (wk:=[]) (wr:=λ_=>[]) rfl (vZ<|vZ<|vn) rfl (cfo krZ<|cfo krZ<|cfn) zSm (λ_=>rfl) (λS' hA hB=>eX (au (ag hA 0 rfl<|atX hne0 hdx 0 rfl)<|b_)<|mz (aN (aM)<|fi) hc2 (λ_ he=>by obtain rfl:=he;exact⟨λi=>([]:List Nat).getD i 0,rfl,au (ag hA 0 rfl<|atX hne0 hdx 0 rfl) (b_)⟩)) (λ_=>je (ux)<|dC (vs:=[am r1,am r2]) O (vZ<|vZ<|vn) (λ_=>im hc3 (λ_ hr=>⟨by rw[hr],rfl⟩)) O ?_))))
 refine dL (E:=([(rg,7)],[])) O O zSm (cfa zAp<|cfa zAp<|cfa zAp<|cfn) (aw (aZ 7 O) aS dZ bz O O (v:=am (at' p n.H)) O<|dP O O<|aA (v:=.sl 3 q0 k0 g0 0 v.length) O<|dP O O<|aF t_ O<|dL (E:=([(rg,3)],[])) O O zSm (cfa zAp<|cfa zAp<|cfa zAp<|cfa zAp<|cfn) (af (aZ 3 O) sz3 ag3 O O (v:=iZ n.X) O<|dCE (vs:=[.sl 3 q0 k0 g0 0 v.length,iZ n.X]) (V:=λ_=>am r4) (rd:=[(q0,k0)]) (wk:=[]) (wr:=λ_=>[]) rfl (vZ<|vZ<|vn) rfl (cfo krZ<|cfa zAp<|cfo krZ<|cfo krZ<|cfo krZ<|cfn) zSm (λ_=>rfl) (λS' hA hB=>eX (au (ag hA 0 rfl<|atX hne0 hdx 0 rfl)<|b_)<|mz (aN (aM)<|fi) hc4 (λ_ he=>by obtain rfl:=he;exact⟨λi=>([]:List Nat).getD i 0,rfl,au (ag hA 0 rfl<|atX hne0 hdx 0 rfl) (b_)⟩)) (λ_=>je (ux)<|dC (vs:=[am (at' p n.H),am r4]) O (vZ<|vZ<|vn) (λ_=>im hc5 (λ_ hr=>⟨by rw[hr],rfl⟩)) O<|dC (vs:=[am r3,am r5]) O (vZ<|vZ<|vn) (λ_=>io hc6 (λ_ hr=>⟨by rw[hr],rfl⟩)) O<|dL (E:=([],[(rg,6)])) O O zSm (cfo krZ<|cfo krZ<|cfo krZ<|cfo krZ<|cfo krZ<|cfo krZ<|cfn) (ay (aZ 6 O) aS dZ O (w:=am r6) O O O (v:=am r6) O aV<|dN<|uZ<|bc (aZ 6 O) aS dZ bz O O (v:=am r6) O<|aK ?_))))
 exact goZ (hfr _ O)<|hQ _ h
theorem qi {d:GDiagram} {p:List GRat} {Q:List GRat->Prop} (h:jO d p Q) (hQ:∀r1,Q r1->R (eL am r1) S) :
  Ctr prog 111 [fT d,eL am p] S R:=by
 refine aI func111 rfl ntmps111 results111 krZ (λrg hrg=>?_)
 refine aj<|wZ rg<|bC (v:=fT d) O O (kk:=3) O dZ (λg1=>asZ .nil O<|aU<|ac<|aF rG O<|ac<|af (aZ 2 O) lQ pe O O (v:=eL aX d.V) O<|ac<|aJ mw O<|tkZ h (λhg h=>wZ rg<|t6 dM tg dh bF (kk:=3) O O O hg (λg2=>fw (EWk.ow (k:=11) (o':=.arr 3 (List.map am<|bS 0 (⟨false,[],[]⟩:GRat))) O (OW.rep<|VWL.vwc<|vZ<|vl' (VW.nilL)<|vl' (VW.nilL)<|vn)) (asZ (.sl 3 rg 11 g2 0<|Int.toNat 0) O<|nZ<|qZ<|aj<|ac<|aF rG O<|ac<|af (aZ 2 O) lQ pe O O (v:=eL aX d.V) O<|ac<|aJ mw O<|mvZ (iZ 0) O<|nZ<|bZ<|lgZ h g2 (λy=>ba [(1,eL am p),(5,.sl 3 rg 11 y.2 0 y.1.2.length),(13,eL aX d.V),(14,iZ (d.V.length:Int)),(15,iZ y.1.1)]) (λy=>stL S rg [(11,.arr 3 (List.map am y.1.2),y.2)]) (canon (fZ<|fc (VW.slen lzZ)<|fZ<|fZ<|fZ<|fn)<|sc O<|sn) (λy _ h=>?_)))))
 obtain⟨⟨x,v⟩,g3⟩:=y
 refine aj<|ac<|bj O O<|nZ<|qZ<|cZ h O (λhb h=>?_) (λhb h=>?_)
 ·exact kZ<|qZ<|bZ<|aj<|tkZ h (λhg1 h=>ac<|aQ mw jj dZ (λ_=>O) O O hg1<|ac<|cn jj dZ v_ O O (v:=aX (at' d.V x)) O<|wZ rg<|aW mM s9 (kk:=3) O (λg4=>ac<|ay (aZ 7 O) jj dZ O (w:=aX (at' d.V x)) O O O (v:=aX (at' d.V x)) O aV<|nZ<|rZ<|mvZ (.sl 3 rg 11 g3 0 v.length) O<|ac<|aw (aZ 7 O) jj dZ v_ O O (v:=aX (at' d.V x)) O<|mvZ (eL am p) O<|mvZ (.sl 3 rg 11 g3 0 v.length) O<|ac<|clZ O<|eX (au (aZ 11 O)<|b_)<|pM (aN (aM)<|fi) h λr h=>ck (au (aZ 11 O)<|b_)<|wZ rg<|bq dM dh bF (es:=[am r]) O (kk:=3) O O O O O O (λg5=>tkZ h (λhg2 h=>wZ rg<|cS dM tg dh bF (es:=v) (xs:=[r]) (enc:=am) (aZ 11 O) lzZ (bQ (aZ 24 O) lzZ) (kk:=3) O O (λ_=>O) (λ_=>O) hg2 O (λ_=>aV) (λg6=>asZ (.sl 3 rg 11 g6 0<|(v++[r]).length) O<|nZ<|rZ<|tkZ h (λhg3 h=>ac<|aG O O hg3<|mvZ (iZ<|x+1) O<|nZ<|⟨(((x+1),(v++[r])),g6),(canon (aP<|fZ<|fn)<|sc O<|sn),h⟩))))))
 exact xsZ<|aj<|mvZ (.sl 3 rg 11 g3 0 v.length) O<|asZ (.sl 3 rg 11 g3 0 v.length) O<|aE<|aC (v:=.sl 3 rg 11 g3 0 v.length) O<|aK<|br (k:=11) (xs:=List.map am v) O (v':=eL am v) (bk O)<|goZ hrg<|hQ _ h
theorem tu {f:GFormula} {p:List GRat} {Q:GRat->Option Int->Prop} (h:mQ f p Q) (hQ:∀r1 r2,Q r1 r2->R (.tuple [am r1,aY 82 r2]) S) :
  Ctr prog 46 [an f,eL am p] S R:=by
 refine aI func46 rfl ntmps46 results46 krZ (λrg hrg=>?_)
 refine aj<|wZ rg<|bC (v:=an f) O O (kk:=3) O dZ (λg1=>wZ rg<|aW bF dh (kk:=3) O (λg2=>asZ .niface O<|nZ<|qZ<|aj<|ac<|aw (aZ 2 O) ct dZ fE O O (v:=an f) O<|ac<|clZ O<|ez h λerr h=>asZ (aY 82 err) O<|aU<|mvZ (aY 82 err) O<|ac<|cK gk (E:=82) O O O<|nZ<|cZ h O (λhb h=>?_) (λhb h=>?_)))
 ·exact aj<|ac<|bG nK bF li kX aS (ps:=[]) O O (v:=.agg [.bool false,.nil,.nil]) O<|mvZ (aY 82 err) O<|ac<|ay (aZ 4 O) aS dZ O (w:=.agg [.bool false,.nil,.nil]) O O O (v:=.agg [.bool false,.nil,.nil]) O aV<|asZ (aY 82 err) O<|aE<|bc (aZ 4 O) aS dZ bz O O (v:=.agg [.bool false,.nil,.nil]) O<|aC (v:=aY 82 err) O<|aK<|aO hrg (VW.tupL<|vl' (VW.aggL<|vZ<|vl' (VW.nilL)<|vl' (VW.nilL)<|vn)<|vZ<|vn)<|hQ _ _ h
 refine kZ<|qZ<|aj<|mvZ (eL am p) O<|ac<|aF cd O<|ac<|af (aZ 2 O) sz3 ag3 O O (v:=iZ f.A) O<|ac<|clZ O<|qJ h λerr1 h=>asZ (aY 82 err1) O<|aU<|mvZ (aY 82 err1) O<|ac<|cK gk (E:=82) O O O<|nZ<|cZ h O (λhb1 h=>?_) (λhb1 h=>?_)
 ·exact aj<|ac<|bG nK bF li kX aS (ps:=[]) O O (v:=.agg [.bool false,.nil,.nil]) O<|mvZ (aY 82 err1) O<|ac<|ay (aZ 4 O) aS dZ O (w:=.agg [.bool false,.nil,.nil]) O O O (v:=.agg [.bool false,.nil,.nil]) O aV<|asZ (aY 82 err1) O<|aE<|bc (aZ 4 O) aS dZ bz O O (v:=.agg [.bool false,.nil,.nil]) O<|aC (v:=aY 82 err1) O<|aK<|aO hrg (VW.tupL<|vl' (VW.aggL<|vZ<|vl' (VW.nilL)<|vl' (VW.nilL)<|vn)<|vZ<|vn)<|hQ _ _ h
 refine kZ<|aj<|ac<|aw (aZ 2 O) ct dZ fE O O (v:=an f) O<|ac<|clZ O<|tJ h λr r1 h=>mvZ (.tuple [bt r,aY 82 r1]) O<|ac<|ar (v:=bt r) O O O<|ac<|ar (v:=aY 82 r1) O O O<|asZ (bt r) O<|asZ (aY 82 r1) O<|nZ<|qZ<|aj<|mvZ (aY 82 r1) O<|ac<|cK gk (E:=82) O O O<|nZ<|cZ h O (λhb2 h=>?_) (λhb2 h=>?_)
 ·exact aj<|ac<|bG nK bF li kX aS (ps:=[]) O O (v:=.agg [.bool false,.nil,.nil]) O<|mvZ (aY 82 r1) O<|ac<|ay (aZ 4 O) aS dZ O (w:=.agg [.bool false,.nil,.nil]) O O O (v:=.agg [.bool false,.nil,.nil]) O aV<|asZ (aY 82 r1) O<|aE<|bc (aZ 4 O) aS dZ bz O O (v:=.agg [.bool false,.nil,.nil]) O<|aC (v:=aY 82 r1) O<|aK<|aO hrg (VW.tupL<|vl' (VW.aggL<|vZ<|vl' (VW.nilL)<|vl' (VW.nilL)<|vn)<|vZ<|vn)<|hQ _ _ h
 refine kZ<|aj<|ac<|aw (aZ 2 O) ct dZ fE O O (v:=an f) O<|mvZ (bt r) O<|ac<|clZ O<|rL h λr2 r3 h=>mvZ (.tuple [fT r2,aY 82 r3]) O<|ac<|ar (v:=fT r2) O O O<|ac<|ar (v:=aY 82 r3) O O O<|wZ rg<|aW nF Bg (kk:=3) O (λg3=>ac<|ay (aZ 10 O) iF dZ O (w:=fT r2) O O O (v:=fT r2) O aV<|asZ (aY 82 r3) O<|nZ<|qZ<|aj<|mvZ (aY 82 r3) O<|ac<|cK gk (E:=82) O O O<|nZ<|cZ h O (λhb3 h=>?_) (λhb3 h=>?_))
 ·exact aj<|ac<|bG nK bF li kX aS (ps:=[]) O O (v:=.agg [.bool false,.nil,.nil]) O<|mvZ (aY 82 r3) O<|ac<|ay (aZ 4 O) aS dZ O (w:=.agg [.bool false,.nil,.nil]) O O O (v:=.agg [.bool false,.nil,.nil]) O aV<|asZ (aY 82 r3) O<|aE<|bc (aZ 4 O) aS dZ bz O O (v:=.agg [.bool false,.nil,.nil]) O<|aC (v:=aY 82 r3) O<|aK<|aO hrg (VW.tupL<|vl' (VW.aggL<|vZ<|vl' (VW.nilL)<|vl' (VW.nilL)<|vn)<|vZ<|vn)<|hQ _ _ h
 refine kZ<|qZ ?_
 obtain⟨r4,hc,h⟩:=h
 obtain⟨r5,hc1,h⟩:=h
 exact Vc.drawn' bA rg (fH [(2,pc (eL am r4)),(5,pc (am r5))]) krZ<|dL (E:=([(rg,10)],[])) O O zSm (cfn) (aw (aZ 10 O) iF dZ tm O O (v:=fT r2) O<|dP O O<|aA (v:=eL am p) O<|dC (vs:=[fT r2,eL am p]) O (vZ<|vZ<|vn) (λ_=>qi hc (λ_ hr=>⟨by rw[hr],rfl⟩)) O<|dP O O<|aF BB O<|dL (E:=([(rg,10)],[])) O O zSm (cfa zAp<|cfn) (af (aZ 10 O) sz3 ag3 O O (v:=iZ r2.Z) O<|dC (vs:=[eL am r4,iZ r2.Z]) O (vZ<|vZ<|vn) (λ_=>uw hc1 (λ_ hr=>⟨by rw[hr],rfl⟩)) O<|dL (E:=([],[(rg,4)])) O O zSm (cfo krZ<|cfo krZ<|cfn) (ay (aZ 4 O) aS dZ O (w:=am r5) O O O (v:=am r5) O aV<|dP O O<|a9 (v:=.niface) O<|dN<|uZ<|bc (aZ 4 O) aS dZ bz O O (v:=am r5) O<|aC (v:=.niface) O<|aK<|aO hrg (VW.tupL<|vZ<|vZ<|vn)<|hQ _ _ h)))
end Go.Proofs.YtnjgdkfhgmebjaaGreat
namespace Go.Proofs.YtnjgdkfhgmebjaaGreat
open Go.Gg Tryz
set_option maxRecDepth 100000
variable {S:St} {R:AV->St->Prop}
theorem ov {m:GMission} {Q:List GRat->Option Int->Prop} (h:iy m Q) (hQ:∀r1 r2,Q r1 r2->R (.tuple [eL am r1,aY 82 r2]) S) :
  Ctr prog 29 [aB m] S R:=by
 refine aI func29 rfl ntmps29 results29 krZ (λrg hrg=>?_)
 refine aj<|wZ rg<|bC (v:=aB m) O O (kk:=2) O dZ (λg1=>asZ .nil O<|asZ .niface O<|nZ<|qZ<|aj<|ac<|aw (aZ 1 O) dA dZ gA O O (v:=aB m) O<|ac<|clZ O<|ip h λerr h=>asZ (aY 82 err) O<|aU<|mvZ (aY 82 err) O<|ac<|cK gk (E:=82) O O O<|nZ<|cZ h O (λhb h=>?_) (λhb h=>?_))
 ·exact aj<|mvZ (aY 82 err) O<|asZ .nil O<|asZ (aY 82 err) O<|aE<|aC (v:=.nil) O<|aC (v:=aY 82 err) O<|aK<|aO hrg (VW.tupL<|vl' (VW.nilL)<|vZ<|vn)<|hQ _ _ h
 refine kZ<|aj<|ac<|aF ca O<|ac<|af (aZ 1 O) eZ fD O O (v:=eL an m.N) O<|ac<|aJ eI O<|asZ (iZ (m.N.length:Int)) O<|aU<|asZ (iZ 1) O<|nZ<|qZ<|aj<|ac<|aF cD O<|ac<|af (aZ 1 O) gn h_ O O (v:=eL (eL am) m.P) O<|ac<|aJ fC O<|mvZ (iZ 0) O<|nZ<|bZ<|lpZ h (λy=>ba [(1,.ptr rg 1 g1 0 0),(5,iZ (m.N.length:Int)),(6,iZ y.1),(24,iZ (m.P.length:Int)),(25,iZ y.2)]) (λy=>stL S rg [(1,.arr 2 [aB m],g1)]) (canon (aP<|fZ<|fn)<|sc O<|sn) (λy _ h=>?_)
 obtain⟨all,x⟩:=y
 refine aj<|ac<|bj O O<|nZ<|qZ<|cZ h O (λhb1 h=>?_) (λhb1 h=>?_)
 ·refine kZ<|qZ<|bZ<|aj<|mvZ (iZ all) O<|mvZ (iZ (m.N.length:Int)) O<|tkZ h (λhg h=>ac<|aG O O hg<|tkZ h (λhg1 h=>ac<|m9 O O hg1<|asZ (iZ<|all*((m.N.length:Int)+1)) O (aU<|mvZ (iZ<|all*((m.N.length:Int)+1)) O (ac<|c9 O O<|nZ<|cZ h O (λhb2 h=>?_) (λhb2 h=>?_)))))
  ·exact aj<|ac<|cm (by rw[gQ];trivial) (v:=iZ 4) O<|asZ .nil O<|asZ (.iface 82<|iZ 4) O<|aE<|aC (v:=.nil) O<|aC (v:=.iface 82 (iZ 4)) O<|aK<|aO hrg (VW.tupL<|vl' (VW.nilL)<|vZ<|vn)<|hQ _ _ h
  exact kZ<|rZ<|tkZ h (λhg2 h=>ac<|aG O O hg2<|mvZ (iZ<|x+1) O<|nZ<|⟨((all*((m.N.length:Int)+1)),(x+1)),(canon (aP<|fZ<|fn)<|sc O<|sn),h⟩)
 refine xsZ<|aj<|mvZ (iZ (m.N.length:Int)) O<|tkZ h (λhg3 h=>wZ rg<|t6 dM tg dh bF (kk:=3) O O O hg3 (λg2=>fw (EWk.ow (k:=36) (o':=.arr 3 (List.map am<|bS (m.N.length:Int) (⟨false,[],[]⟩:GRat))) O (OW.rep<|VWL.vwc<|vZ<|vl' (VW.nilL)<|vl' (VW.nilL)<|vn)) (asZ (.sl 3 rg 36 g2 0<|Int.toNat (m.N.length:Int)) O<|nZ<|qZ<|aj<|mvZ (iZ all) O<|mvZ (iZ 0) O<|nZ<|bZ<|lpZ h (λy=>ba [(1,.ptr rg 1 g1 0 0),(5,iZ (m.N.length:Int)),(7,.sl 3 rg 36 g2 0 y.2.length),(37,iZ all),(38,iZ y.1)]) (λy=>stL S rg [(1,.arr 2 [aB m],g1),(36,.arr 3 (List.map am y.2),g2)]) (canon (fZ<|fZ<|fc (VW.slen lzZ)<|fZ<|fZ<|fn)<|sc O<|sc O<|sn) (λy _ h=>?_))))
 obtain⟨x1,out⟩:=y
 refine aj<|ac<|bj O O<|nZ<|qZ<|cZ h O (λhb3 h=>?_) (λhb3 h=>?_)
 ·refine kZ<|qZ<|bZ<|aj<|mvZ (iZ x1) O<|asZ (iZ x1) O<|aU<|ac<|aF cD O<|ac<|af (aZ 1 O) gn h_ O O (v:=eL (eL am) m.P) O<|ac<|aJ fC O<|tkZ h (λhg4 h=>wZ rg<|gb bJ oA ok3 (enc:=iZ) (z':=0) gE (kk:=1) O O O hg4 (λg3=>asZ (.sl 1 rg 44 g3 0<|Int.toNat (m.P.length:Int)) O<|nZ<|qZ<|aj<|mvZ (.sl 1 rg 44 g3 0<|Int.toNat (m.P.length:Int)) O<|ac<|gW bJ O<|mvZ (iZ 0) O<|nZ<|bZ<|lpZ h (λy=>ba [(1,.ptr rg 1 g1 0 0),(5,iZ (m.N.length:Int)),(7,.sl 3 rg 36 g2 0 out.length),(8,iZ y.1),(9,.sl 1 rg 44 g3 0 y.2.2.length),(37,iZ all),(38,iZ x1),(46,iZ ((Int.toNat (m.P.length:Int)):Int)),(47,iZ y.2.1)]) (λy=>stL S rg [(1,.arr 2 [aB m],g1),(36,.arr 3 (List.map am out),g2),(44,.arr 1 (List.map iZ y.2.2),g3)]) (canon (aP<|fc (VW.slen lzZ)<|aP<|fn)<|sc O<|sc O<|sc O<|sn) (λy _ h=>?_)))
  obtain⟨number,x2,h1⟩:=y
  refine aj<|ac<|bj O O<|nZ<|qZ<|cZ h O (λhb4 h=>?_) (λhb4 h=>?_)
  ·exact kZ<|qZ<|bZ<|aj<|mvZ (iZ x2) O<|asZ (iZ x2) O<|nZ<|tkZ h (λhg5 h=>tkZ h (λhg6 h=>tkZ h (λhg7 h=>tkZ h (λhg8 h=>tkZ h (λhi h=>Vc.drawn' bA rg (λ_=>fS) krZ<|dP O O<|aA (v:=.sl 1 rg 44 g3 0 h1.length) O<|dP O O<|aA (v:=iZ x2) O<|dP O O<|aA (v:=iZ number) O<|dP O O<|aA (v:=iZ (m.N.length:Int)) O<|dP O O<|aG O O hg5<|dP O O<|Bh O O hg6<|dP O O<|aA (v:=iZ number) O<|dP O O<|aA (v:=iZ (m.N.length:Int)) O<|dP O O<|aG O O hg7<|dP O O<|GJ O O hg8<|dP O O<|bm bJ sz3 dZ O O hi<|dL (E:=([],[(rg,44)])) O O zSm (cfn) (bR (aZ 44 O) sz3 dZ (x':=(Int.tmod number<|(m.N.length:Int)+1)) (λ_=>O) O O (bH hi lzZ) O O aV<|dP O O<|a9 (v:=iZ (Int.tdiv number<|(m.N.length:Int)+1)) O (dN<|rZ<|tkZ h (λhg9 h=>ac<|aG O O hg9<|mvZ (iZ<|x2+1) O<|nZ<|⟨((Int.tdiv number<|(m.N.length:Int)+1),(x2+1),(bu h1 x2<|Int.tmod number<|(m.N.length:Int)+1)),(canon (aP<|fc (VW.slen lzZ)<|aP<|fn)<|sc O<|sc O<|sc O<|sn),h⟩))))))))
  refine xsZ<|aj<|ac<|aw (aZ 1 O) dA dZ gA O O (v:=aB m) O<|mvZ (.sl 1 rg 44 g3 0 h1.length) O<|fw (bw (k:=44) (xs:=List.map iZ h1) O (es:=[(1,.ptr rg 1 g1 0 0),(5,iZ (m.N.length:Int)),(7,.sl 3 rg 36 g2 0 out.length),(9,bt h1),(37,iZ all),(38,iZ x1),(63,aB m),(64,bt h1)]) (fZ<|fZ<|fc (gh O)<|fc (bk O)<|fZ<|fZ<|fZ<|fc (bk O)<|fn) (m:=[(1,.arr 2 [aB m],g1),(36,.arr 3 (List.map am out),g2)]) (sc O<|sc O<|sn)) (ac<|clZ O<|sk h λr r1 h=>mvZ (.tuple [iZ r,aY 82 r1]) O<|ac<|ar (v:=iZ r) O O O<|ac<|ar (v:=aY 82 r1) O O O<|asZ (iZ r) O<|asZ (aY 82 r1) O<|nZ<|qZ<|aj<|mvZ (aY 82 r1) O<|ac<|cK gk (E:=82) O O O<|nZ<|cZ h O (λhb5 h=>?_) (λhb5 h=>?_))
  ·exact aj<|mvZ (aY 82 r1) O<|asZ .nil O<|asZ (aY 82 r1) O<|aE<|aC (v:=.nil) O<|aC (v:=aY 82 r1) O<|aK<|aO hrg (VW.tupL<|vl' (VW.nilL)<|vZ<|vn)<|hQ _ _ h
  refine kZ<|qZ<|aj<|mvZ (iZ r) O<|mvZ (iZ (m.N.length:Int)) O<|ac<|bK O O<|nZ<|cZ h O (λhb6 h=>?_) (λhb6 h=>?_)
  ·exact xsZ<|rZ<|tkZ h (λhg10 h=>ac<|aG O O hg10<|mvZ (iZ<|x1+1) O<|nZ<|⟨((x1+1),out),(canon (aP<|fZ<|fn)<|sc O<|sc O<|sn),h⟩)
  refine kZ<|aj<|ac<|aw (aZ 1 O) dA dZ gA O O (v:=aB m) O<|mvZ (bt h1) O<|ac<|clZ O<|qX h λr2 r3 h=>mvZ (.tuple [am r2,aY 82 r3]) O<|ac<|ar (v:=am r2) O O O<|ac<|ar (v:=aY 82 r3) O O O<|wZ rg<|aW bF dh (kk:=3) O (λg4=>ac<|ay (aZ 13 O) aS dZ O (w:=am r2) O O O (v:=am r2) O aV<|asZ (aY 82 r3) O<|nZ<|qZ<|aj<|mvZ (aY 82 r3) O<|ac<|cK gk (E:=82) O O O<|nZ<|cZ h O (λhb7 h=>?_) (λhb7 h=>?_))
  ·exact aj<|mvZ (aY 82 r3) O<|asZ .nil O<|asZ (aY 82 r3) O<|aE<|aC (v:=.nil) O<|aC (v:=aY 82 r3) O<|aK<|aO hrg (VW.tupL<|vl' (VW.nilL)<|vZ<|vn)<|hQ _ _ h
  refine kZ<|tkZ h (λhi1 h=>?_)
  obtain⟨r4,hc,h⟩:=h
  exact tkZ h (λhi2 h=>Vc.drawn' bA rg (fH [(7,pc (am r4))]) krZ<|dP O O<|aA (v:=.sl 3 rg 36 g2 0 out.length) O<|dP O O<|aA (v:=iZ r) O<|dP O O<|aA (v:=.sl 3 rg 36 g2 0 out.length) O<|dP O O<|aA (v:=iZ r) O<|dP O O<|bm dM aS dZ O O hi1<|dL (E:=([(rg,36)],[])) O O zSm (cfn) (np (aZ 36 O) aS dZ bz O (bH hi1 lzZ) O (v:=am (at' out r)) O<|dL (E:=([(rg,13)],[])) O O zSm (cfa zAp<|cfn) (aw (aZ 13 O) aS dZ bz O O (v:=am r2) O<|dC (vs:=[am (at' out r),am r2]) O (vZ<|vZ<|vn) (λ_=>io hc (λ_ hr=>⟨by rw[hr],rfl⟩)) O<|dP O O<|bm dM aS dZ O O hi2<|dL (E:=([],[(rg,36)])) O O zSm (cfo krZ<|cfo krZ<|cfn) (w8 (aZ 36 O) aS dZ (x':=r4) (λ_=>O) O O (bH hi2 lzZ) O O aV<|dN<|rZ<|tkZ h (λhg11 h=>ac<|aG O O hg11<|mvZ (iZ<|x1+1) O<|nZ<|⟨((x1+1),(bu out r r4)),(canon (fZ<|fZ<|fc (VW.slen lzZ)<|fZ<|fZ<|fn)<|sc O<|sc O<|sn),h⟩)))))
 exact xsZ<|aj<|mvZ (.sl 3 rg 36 g2 0 out.length) O<|asZ (.sl 3 rg 36 g2 0 out.length) O<|asZ .niface O<|aE<|aC (v:=.sl 3 rg 36 g2 0 out.length) O<|aC (v:=.niface) O<|aK<|br (k:=36) (xs:=List.map am out) O (v':=.tuple [eL am out,.niface]) (VW.tupL<|vl' (bk O)<|vZ<|vn)<|aO hrg (VW.tupL<|vZ<|vZ<|vn)<|hQ _ _ h
theorem rr {m:GMission} {Q:GRat->Option Int->Prop} (h:kO m Q) (hQ:∀r1 r2,Q r1 r2->R (.tuple [am r1,aY 82 r2]) S) :
  Ctr prog 33 [aB m] S R:=by
 refine aI func33 rfl ntmps33 results33 krZ (λrg hrg=>?_)
 refine aj<|wZ rg<|bC (v:=aB m) O O (kk:=2) O dZ (λg1=>wZ rg<|aW bF dh (kk:=3) O (λg2=>asZ .niface O<|aU<|ac<|aw (aZ 1 O) dA dZ gA O O (v:=aB m) O<|ac<|clZ O<|qY h λr r1 r2 h=>mvZ (.tuple [an r,eL am r1,aY 82 r2]) O<|ac<|ar (v:=an r) O O O<|ac<|ar (v:=eL am r1) O O O<|ac<|ar (v:=aY 82 r2) O O O<|wZ rg<|aW fG nT (kk:=3) O (λg3=>ac<|ay (aZ 4 O) ct dZ O (w:=an r) O O O (v:=an r) O aV<|asZ (eL am r1) O<|asZ (aY 82 r2) O<|nZ<|qZ<|aj<|mvZ (aY 82 r2) O<|ac<|cK gk (E:=82) O O O<|nZ<|cZ h O (λhb h=>?_) (λhb h=>?_))))
 ·exact aj<|ac<|bG nK bF li kX aS (ps:=[]) O O (v:=.agg [.bool false,.nil,.nil]) O<|mvZ (aY 82 r2) O<|ac<|ay (aZ 2 O) aS dZ O (w:=.agg [.bool false,.nil,.nil]) O O O (v:=.agg [.bool false,.nil,.nil]) O aV<|asZ (aY 82 r2) O<|aE<|bc (aZ 2 O) aS dZ bz O O (v:=.agg [.bool false,.nil,.nil]) O<|aC (v:=aY 82 r2) O<|aK<|aO hrg (VW.tupL<|vl' (VW.aggL<|vZ<|vl' (VW.nilL)<|vl' (VW.nilL)<|vn)<|vZ<|vn)<|hQ _ _ h
 exact kZ<|aj<|ac<|aw (aZ 4 O) ct dZ fE O O (v:=an r) O<|mvZ (eL am r1) O<|ac<|clZ O<|tu h λr3 r4 h=>ac<|ar (v:=am r3) O O O<|ac<|ar (v:=aY 82 r4) O O O<|ac<|ay (aZ 2 O) aS dZ O (w:=am r3) O O O (v:=am r3) O aV<|asZ (aY 82 r4) O<|aE<|bc (aZ 2 O) aS dZ bz O O (v:=am r3) O<|aC (v:=aY 82 r4) O<|aK<|aO hrg (VW.tupL<|vZ<|vZ<|vn)<|hQ _ _ h
end Go.Proofs.YtnjgdkfhgmebjaaGreat
namespace Go.Proofs.YtnjgdkfhgmebjaaGreat
open Go.Gg Tryz
set_option maxRecDepth 100000
variable {S:St} {R:AV->St->Prop}
end Go.Proofs.YtnjgdkfhgmebjaaGreat
namespace Go.Proofs.YtnjgdkfhgmebjaaGreat
open Go.Gg Tryz
set_option maxRecDepth 100000
variable {S:St} {R:AV->St->Prop}
end Go.Proofs.YtnjgdkfhgmebjaaGreat
namespace Go.Proofs.YtnjgdkfhgmebjaaGreat
open Go.Gg Tryz
set_option maxRecDepth 100000
variable {S:St} {R:AV->St->Prop}
theorem fK {m:GMission} {Q:Int->Prop} (h:d6 m Q) (hQ:∀r1,Q r1->R (iZ r1) S) :
  Ctr prog 36 [aB m] S R:=by
 refine aI func36 rfl ntmps36 results36 krZ (λrg hrg=>?_)
 exact aj<|wZ rg<|bC (v:=aB m) O O (kk:=2) O dZ (λg1=>asZ (iZ 0) O<|aU<|ac<|aF ca O<|ac<|af (aZ 1 O) eZ fD O O (v:=eL an m.N) O<|tkZ h (λhg h=>ac<|aQ eI ct dZ (λ_=>O) O O hg<|ac<|faZ cd O O<|ac<|aL sz3 ag3 O O (v:=iZ ((at' m.N 0).A)) O (asZ (iZ<|(at' m.N 0).A) O<|aE<|gv1 hrg<|hQ _ h)))
theorem qm {m:GMission} {Q:Int->Prop} (h:nf m Q) (hQ:∀r1,Q r1->R (iZ r1) S) :
  Ctr prog 92 [aB m] S R:=by
 refine aI func92 rfl ntmps92 results92 krZ (λrg hrg=>?_)
 refine aj<|wZ rg<|bC (v:=aB m) O O (kk:=2) O dZ (λg1=>asZ (iZ 0) O<|nZ<|qZ<|aj<|ac<|aF ca O<|ac<|af (aZ 1 O) eZ fD O O (v:=eL an m.N) O<|ac<|aJ eI O<|ac<|bK O O<|nZ<|cZ h O (λhb h=>?_) (λhb h=>?_))
 ·exact aj<|asZ (iZ 11) O<|aE<|gv1 hrg<|hQ _ h
 refine kZ<|qZ<|aj<|ac<|aF ca O<|ac<|af (aZ 1 O) eZ fD O O (v:=eL an m.N) O<|ac<|aJ eI O<|ac<|c9 O O<|nZ<|cZ h O (λhb1 h=>?_) (λhb1 h=>?_)
 ·exact aj<|asZ (iZ 4) O<|aE<|gv1 hrg<|hQ _ h
 refine kZ<|qZ<|aj<|asZ (iZ 0) O<|nZ<|bZ<|lpZ h (λy=>ba [(1,.ptr rg 1 g1 0 0),(3,iZ y)]) (λy=>stL S rg [(1,.arr 2 [aB m],g1)]) (canon (fZ<|fZ<|fn)<|sc O<|sn) (λj _ h=>qZ<|aj<|mvZ (iZ j) O<|ac<|aF ca O<|ac<|af (aZ 1 O) eZ fD O O (v:=eL an m.N) O<|ac<|aJ eI O<|ac<|bj O O<|nZ<|cZ h O (λhb2 h=>?_) (λhb2 h=>?_))
 ·refine kZ<|qZ<|bZ<|qZ<|aj<|ac<|aF ca O<|ac<|af (aZ 1 O) eZ fD O O (v:=eL an m.N) O<|mvZ (iZ j) O<|tkZ h (λhg h=>ac<|aQ eI ct dZ (λ_=>O) O O hg<|ac<|cn ct dZ fE O O (v:=an (at' m.N j)) O<|ac<|clZ O<|tD h λe h=>asZ (iZ e) O<|aU<|mvZ (iZ e) O<|ac<|c8 O O<|nZ<|cZ h O (λhb3 h=>?_) (λhb3 h=>?_))
  ·exact aj<|mvZ (iZ e) O<|asZ (iZ e) O<|aE<|gv1 hrg<|hQ _ h
  refine kZ<|qZ<|tkZ h (λhg1 h=>?_)
  obtain⟨r,hc,h⟩:=h
  refine Vc.drawn' bA rg (fH [(7,pc (iZ r))]) krZ<|dP O O<|aF ca O<|dL (E:=([(rg,1)],[])) O O zSm (cfn) (af (aZ 1 O) eZ fD O O (v:=eL an m.N) O<|dP O O<|aA (v:=iZ j) O<|dP O O<|aQ eI ct dZ (λ_=>O) O O hg1<|dP O O<|faZ cd O O<|dP O O<|aL sz3 ag3 O O (v:=iZ ((at' m.N j).A)) O (dL (E:=([(rg,1)],[])) O O zSm (cfa zAp<|cfn) (aw (aZ 1 O) dA dZ gA O O (v:=aB m) O<|dC (vs:=[aB m]) O (vZ<|vn) (λ_=>fK hc (λ_ hr=>⟨by rw[hr],rfl⟩)) O<|dP O O<|c8 O O<|dN<|cZ h O (λhb4 h=>?_) (λhb4 h=>?_))))
  ·exact aj<|asZ (iZ 11) O<|aE<|gv1 hrg<|hQ _ h
  exact kZ<|rZ<|mvZ (iZ j) O<|tkZ h (λhg2 h=>ac<|aG O O hg2<|asZ (iZ<|j+1) O<|nZ<|⟨(j+1),(canon (fZ<|fZ<|fn)<|sc O<|sn),h⟩)
 exact xsZ<|aj<|asZ (iZ 0) O<|aE<|gv1 hrg<|hQ _ h
theorem oa {m:GMission} {Q:Int->Prop} (h:j3 m Q) (hQ:∀r1,Q r1->R (iZ r1) S) :
  Ctr prog 30 [aB m] S R:=by
 refine aI func30 rfl ntmps30 results30 krZ (λrg hrg=>?_)
 refine aj<|wZ rg<|bC (v:=aB m) O O (kk:=2) O dZ (λg1=>asZ (iZ 0) O<|nZ<|qZ<|aj<|ac<|aw (aZ 1 O) dA dZ gA O O (v:=aB m) O<|ac<|clZ O<|qm h λe h=>asZ (iZ e) O<|aU<|mvZ (iZ e) O<|ac<|c8 O O<|nZ<|cZ h O (λhb h=>?_) (λhb h=>?_))
 ·exact aj<|mvZ (iZ e) O<|asZ (iZ e) O<|aE<|gv1 hrg<|hQ _ h
 refine kZ<|qZ<|qZ ?_
 obtain⟨r,hc,h⟩:=h
 refine tkZ h (λhg h=>Vc.drawn' bA rg (fH [(1,pc (iZ r))]) krZ<|dL (E:=([(rg,1)],[])) O O zSm (cfn) (aw (aZ 1 O) dA dZ gA O O (v:=aB m) O<|dC (vs:=[aB m]) O (vZ<|vn) (λ_=>fK hc (λ_ hr=>⟨by rw[hr],rfl⟩)) O<|dP O O<|aF ca O<|dL (E:=([(rg,1)],[])) O O zSm (cfa zAp<|cfn) (af (aZ 1 O) eZ fD O O (v:=eL an m.N) O<|dP O O<|aJ eI O<|dP O O<|m9 O O hg<|dP O O<|c9 O O<|dN<|cZ h O (λhb1 h=>?_) (λhb1 h=>?_))))
 ·exact aj<|asZ (iZ 4) O<|aE<|gv1 hrg<|hQ _ h
 refine kZ<|qZ<|qZ ?_
 obtain⟨r1,hc1,h⟩:=h
 refine Vc.drawn' bA rg (fH [(4,pc (iZ r1))]) krZ<|dP O O<|aF cD O<|dL (E:=([(rg,1)],[])) O O zSm (cfn) (af (aZ 1 O) gn h_ O O (v:=eL (eL am) m.P) O<|dP O O<|aJ fC O<|dL (E:=([(rg,1)],[])) O O zSm (cfa zAp<|cfn) (aw (aZ 1 O) dA dZ gA O O (v:=aB m) O<|dC (vs:=[aB m]) O (vZ<|vn) (λ_=>fK hc1 (λ_ hr=>⟨by rw[hr],rfl⟩)) O<|dP O O<|c8 O O<|dN<|cZ h O (λhb2 h=>?_) (λhb2 h=>?_)))
 ·exact aj<|asZ (iZ 11) O<|aE<|gv1 hrg<|hQ _ h
 refine kZ<|qZ<|aj<|asZ (iZ 0) O<|nZ<|bZ<|lpZ h (λy=>ba [(1,.ptr rg 1 g1 0 0),(4,iZ y)]) (λy=>stL S rg [(1,.arr 2 [aB m],g1)]) (canon (fZ<|fZ<|fn)<|sc O<|sn) (λi _ h=>qZ<|aj<|mvZ (iZ i) O<|ac<|aF cD O<|ac<|af (aZ 1 O) gn h_ O O (v:=eL (eL am) m.P) O<|ac<|aJ fC O<|ac<|bj O O<|nZ<|cZ h O (λhb3 h=>?_) (λhb3 h=>?_))
 ·refine kZ<|qZ<|bZ<|qZ<|qZ<|tkZ h (λhg1 h=>Vc.drawn' bA rg (λ_=>fS) krZ<|dP O O<|aF cD O<|dL (E:=([(rg,1)],[])) O O zSm (cfn) (af (aZ 1 O) gn h_ O O (v:=eL (eL am) m.P) O<|dP O O<|aA (v:=iZ i) O<|dP O O<|aQ fC gp dZ (λ_=>O) O O hg1<|dP O O<|aL gp oB O O (v:=eL am (at' m.P i)) O<|dP O O<|aJ dM O<|dP O O<|aF ca O<|dL (E:=([(rg,1)],[])) O O zSm (cfa zAp<|cfn) (af (aZ 1 O) eZ fD O O (v:=eL an m.N) O<|dP O O<|aJ eI O<|dP O O<|c8 O O<|dN<|cZ h O (λhb4 h=>?_) (λhb4 h=>?_))))
  ·exact aj<|asZ (iZ 11) O<|aE<|gv1 hrg<|hQ _ h
  refine kZ<|aj<|asZ (iZ 0) O<|nZ<|bZ<|lpZ h (λy=>ba [(1,.ptr rg 1 g1 0 0),(4,iZ i),(5,iZ y)]) (λy=>stL S rg [(1,.arr 2 [aB m],g1)]) (canon (fZ<|fZ<|fZ<|fn)<|sc O<|sn) (λj _ h=>qZ<|aj<|mvZ (iZ j) O<|ac<|aF cD O<|ac<|af (aZ 1 O) gn h_ O O (v:=eL (eL am) m.P) O<|mvZ (iZ i) O<|tkZ h (λhg2 h=>ac<|aQ fC gp dZ (λ_=>O) O O hg2<|ac<|aL gp oB O O (v:=eL am (at' m.P i)) O<|ac<|aJ dM O<|ac<|bj O O<|nZ<|cZ h O (λhb5 h=>?_) (λhb5 h=>?_)))
  ·refine kZ<|qZ<|bZ<|aj<|ac<|aF cD O<|ac<|af (aZ 1 O) gn h_ O O (v:=eL (eL am) m.P) O<|mvZ (iZ i) O<|tkZ h (λhg3 h=>ac<|aQ fC gp dZ (λ_=>O) O O hg3<|ac<|aL gp oB O O (v:=eL am (at' m.P i)) O<|mvZ (iZ j) O<|tkZ h (λhg4 h=>ac<|aQ dM aS dZ (λ_=>O) O O hg4<|ac<|cn aS dZ bz O O (v:=am (at' (at' m.P i) j)) O (ac<|clZ O<|oI h λr2 h=>ac<|gK O<|nZ<|cZ h O (λhb6 h=>?_) (λhb6 h=>?_))))
   ·exact aj<|asZ (iZ 3) O<|aE<|gv1 hrg<|hQ _ h
   exact kZ<|rZ<|mvZ (iZ j) O<|tkZ h (λhg5 h=>ac<|aG O O hg5<|asZ (iZ<|j+1) O<|nZ<|⟨(j+1),(canon (fZ<|fZ<|fZ<|fn)<|sc O<|sn),h⟩)
  exact xsZ<|rZ<|mvZ (iZ i) O<|tkZ h (λhg6 h=>ac<|aG O O hg6<|asZ (iZ<|i+1) O<|nZ<|⟨(i+1),(canon (fZ<|fZ<|fn)<|sc O<|sn),h⟩)
 exact xsZ<|aj<|asZ (iZ 0) O<|aE<|gv1 hrg<|hQ _ h
end Go.Proofs.YtnjgdkfhgmebjaaGreat
namespace Go.Proofs.YtnjgdkfhgmebjaaGreat
open Go.Gg Tryz
set_option maxRecDepth 100000
variable {S:St} {R:AV->St->Prop}
end Go.Proofs.YtnjgdkfhgmebjaaGreat
namespace Go.Proofs.YtnjgdkfhgmebjaaGreat
open Go.Gg Tryz
set_option maxRecDepth 100000
variable {S:St} {R:AV->St->Prop}
theorem kY {m:GMission} {Q:Int->Prop} (h:gJ m Q) (hQ:∀r1,Q r1->R (iZ r1) S) :
  Ctr prog 87 [aB m] S R:=by
 refine aI func87 rfl ntmps87 results87 krZ (λrg hrg=>?_)
 refine aj<|wZ rg<|bC (v:=aB m) O O (kk:=2) O dZ (λg1=>asZ (iZ 0) O<|aU<|asZ (iZ 1) O<|nZ<|qZ<|aj<|asZ (iZ 0) O<|nZ<|bZ<|lpZ h (λy=>ba [(1,.ptr rg 1 g1 0 0),(3,iZ y.1),(4,iZ y.2)]) (λy=>stL S rg [(1,.arr 2 [aB m],g1)]) (canon (fZ<|fZ<|fZ<|fn)<|sc O<|sn) (λy _ h=>?_))
 obtain⟨n,i⟩:=y
 refine qZ<|aj<|mvZ (iZ i) O<|ac<|aw (aZ 1 O) dA dZ gA O O (v:=aB m) O<|ac<|clZ O<|fK h λr h=>ac<|bj O O<|mvZ (.bool<|decide<|i<r) O<|gtZ h O O (λhb h=>?_) (λhb h=>?_)
 ·refine mvZ (iZ n) O<|gTZ O O hb<|ac<|ta O O<|ac<|be O hb (v:=.bool (decide<|n<=4096)) O (nZ<|cZ h O (λhb1 h=>?_) (λhb1 h=>?_))
  ·exact kZ<|qZ<|bZ<|rZ<|mvZ (iZ n) O<|ac<|aF ca O<|ac<|af (aZ 1 O) eZ fD O O (v:=eL an m.N) O<|ac<|aJ eI O<|tkZ h (λhg h=>ac<|aG O O hg<|tkZ h (λhg1 h=>ac<|m9 O O hg1<|asZ (iZ<|n*((m.N.length:Int)+1)) O (nZ<|rZ<|mvZ (iZ i) O<|tkZ h (λhg2 h=>ac<|aG O O hg2<|asZ (iZ<|i+1) O<|nZ<|⟨((n*((m.N.length:Int)+1)),(i+1)),(canon (fZ<|fZ<|fZ<|fn)<|sc O<|sn),h⟩))))
  exact xsZ<|aj<|mvZ (iZ n) O<|asZ (iZ n) O<|aE<|gv1 hrg<|hQ _ h
 exact gFZ O O hb O<|ac<|bd O hb (v:=.bool false) O<|nZ<|cFZ O O<|xsZ<|aj<|mvZ (iZ n) O<|asZ (iZ n) O<|aE<|gv1 hrg<|hQ _ h
end Go.Proofs.YtnjgdkfhgmebjaaGreat
namespace Go.Proofs.YtnjgdkfhgmebjaaGreat
open Go.Gg Tryz
set_option maxRecDepth 100000
variable {S:St} {R:AV->St->Prop}
theorem g_ {n:Int} {d:Int} {Q:GRat->Prop} (h:iu n d Q) (hQ:∀r1,Q r1->R (am r1) S) :
  Ctr prog 86 [iZ n,iZ d] S R:=by
 refine aI func86 rfl ntmps86 results86 krZ (λrg hrg=>?_)
 exact aj<|wZ rg<|aW bF dh (kk:=3) O (λg1=>aU<|mvZ (iZ n) O<|mvZ (iZ d) O<|ac<|clZ O<|oK h λr r1 h=>mvZ (.tuple [am r,iZ r1]) O<|ac<|ar (v:=am r) O O O<|ac<|ar (v:=iZ r1) O O O<|wZ rg<|aW bF dh (kk:=3) O (λg2=>ac<|ay (aZ 5 O) aS dZ O (w:=am r) O O O (v:=am r) O aV<|asZ (iZ r1) O<|aU<|ac<|aw (aZ 5 O) aS dZ bz O O (v:=am r) O<|ac<|ay (aZ 4 O) aS dZ O (w:=am r) O O O (v:=am r) O aV<|aE<|bc (aZ 4 O) aS dZ bz O O (v:=am r) O<|aK<|goZ hrg<|hQ _ h))
theorem mI {Q:GMission->Prop} (h:iR Q) (hQ:∀r1,Q r1->R (aB r1) S) :
  Ctr prog 85 [] S R:=by
 refine aI func85 rfl ntmps85 results85 krZ (λrg hrg=>?_)
 refine aj<|wZ rg<|aW lN zd (kk:=2) O (λg1=>aU<|wZ rg<|bq bJ ok3 gE (es:=[iZ 0,iZ 1]) O (kk:=1) O O O O O O (λg2=>ac<|bG sQ fx vY um cU (ps:=[(0,iZ 2),(2,.sl 1 rg 4 g2 0 ([0,1].length))]) O O (v:=.agg [iZ 2,iZ 0,.sl 1 rg 4 g2 0 ([0,1].length)]) O (fw (bw (k:=4) (xs:=List.map iZ [0,1]) O (es:=[(0,.ptr rg 0 g1 0 0),(5,.agg [iZ 2,iZ 0,bt [0,1]])]) (fZ<|fc (VW.aggL<|vZ<|vZ<|vl' (bk O)<|vn)<|fn) (m:=[(0,.arr 2 [.agg [.nil,.nil]],g1)]) (sc O<|sn)) (wZ rg<|bq d5 k_ fx (es:=[.agg [iZ 2,iZ 0,bt [0,1]]]) O (kk:=3) O O O O O O (λg4=>ac<|bG ug fG tk sR ct (ps:=[(0,iZ 2),(1,.sl 3 rg 6 g4 0 ([(⟨2,0,[0,1]⟩:GNode)].length)),(2,iZ 2)]) O O (v:=.agg [iZ 2,.sl 3 rg 6 g4 0 ([(⟨2,0,[0,1]⟩:GNode)].length),iZ 2]) O (wZ rg<|aW fG nT (kk:=3) O (λg5=>ac<|ay (aZ 1 O) ct dZ O (w:=.agg [iZ 2,.sl 3 rg 6 g4 0 ([(⟨2,0,[0,1]⟩:GNode)].length),iZ 2]) O O O (v:=.agg [iZ 2,.sl 3 rg 6 g4 0 ([(⟨2,0,[0,1]⟩:GNode)].length),iZ 2]) O aV (aU<|wZ rg<|bq bJ ok3 gE (es:=[iZ 0,iZ 1]) O (kk:=1) O O O O O O (λg6=>ac<|bG sQ fx vY um cU (ps:=[(0,iZ 3),(2,.sl 1 rg 8 g6 0 ([0,1].length))]) O O (v:=.agg [iZ 3,iZ 0,.sl 1 rg 8 g6 0 ([0,1].length)]) O ?_)))))))))
 refine fw (bw (k:=8) (xs:=List.map iZ [0,1]) O (es:=[(0,.ptr rg 0 g1 0 0),(1,.ptr rg 1 g5 0 0),(9,.agg [iZ 3,iZ 0,bt [0,1]])]) (fZ<|fZ<|fc (VW.aggL<|vZ<|vZ<|vl' (bk O)<|vn)<|fn) (m:=[(0,.arr 2 [.agg [.nil,.nil]],g1),(1,.arr 3 [.agg [iZ 2,.sl 3 rg 6 g4 0 ([(⟨2,0,[0,1]⟩:GNode)].length),iZ 2]],g5),(6,.arr 3 (List.map bb [(⟨2,0,[0,1]⟩:GNode)]),g4)]) (sc O<|sc O<|sc O<|sn)) (wZ rg<|bq d5 k_ fx (es:=[.agg [iZ 3,iZ 0,bt [0,1]]]) O (kk:=3) O O O O O O (λg8=>ac<|bG ug fG tk sR ct (ps:=[(0,iZ 2),(1,.sl 3 rg 10 g8 0 ([(⟨3,0,[0,1]⟩:GNode)].length)),(2,iZ 2)]) O O (v:=.agg [iZ 2,.sl 3 rg 10 g8 0 ([(⟨3,0,[0,1]⟩:GNode)].length),iZ 2]) O (wZ rg<|aW fG nT (kk:=3) O (λg9=>ac<|ay (aZ 2 O) ct dZ O (w:=.agg [iZ 2,.sl 3 rg 10 g8 0 ([(⟨3,0,[0,1]⟩:GNode)].length),iZ 2]) O O O (v:=.agg [iZ 2,.sl 3 rg 10 g8 0 ([(⟨3,0,[0,1]⟩:GNode)].length),iZ 2]) O aV (aU<|ac<|clZ O<|g_ h λr h=>wZ rg<|aW bF dh (kk:=3) O (λg10=>ac<|ay (aZ 3 O) aS dZ O (w:=am r) O O O (v:=am r) O aV<|aU<|ac<|aw (aZ 1 O) ct dZ fE O O (v:=.agg [iZ 2,.sl 3 rg 6 g4 0 ([(⟨2,0,[0,1]⟩:GNode)].length),iZ 2]) O (ac<|aw (aZ 2 O) ct dZ fE O O (v:=.agg [iZ 2,.sl 3 rg 10 g8 0 ([(⟨3,0,[0,1]⟩:GNode)].length),iZ 2]) O ?_)))))))
 refine fw (bw (k:=6) (xs:=List.map bb [(⟨2,0,[0,1]⟩:GNode)]) O (es:=[(0,.ptr rg 0 g1 0 0),(3,.ptr rg 3 g10 0 0),(13,.agg [iZ 2,eL bb [(⟨2,0,[0,1]⟩:GNode)],iZ 2]),(14,.agg [iZ 2,.sl 3 rg 10 g8 0 ([(⟨3,0,[0,1]⟩:GNode)].length),iZ 2])]) (fZ<|fZ<|fc (VW.aggL<|vZ<|vl' (bk O)<|vZ<|vn)<|fc (VW.aggL<|vZ<|vl' (gh O)<|vZ<|vn)<|fn) (m:=[(0,.arr 2 [.agg [.nil,.nil]],g1),(3,.arr 3 [am r],g10),(10,.arr 3 (List.map bb [(⟨3,0,[0,1]⟩:GNode)]),g8)]) (sc O<|sc O<|sc O<|sn)) (fw (bw (k:=10) (xs:=List.map bb [(⟨3,0,[0,1]⟩:GNode)]) O (es:=[(0,.ptr rg 0 g1 0 0),(3,.ptr rg 3 g10 0 0),(13,.agg [iZ 2,eL bb [(⟨2,0,[0,1]⟩:GNode)],iZ 2]),(14,.agg [iZ 2,eL bb [(⟨3,0,[0,1]⟩:GNode)],iZ 2])]) (fZ<|fZ<|fZ<|fc (VW.aggL<|vZ<|vl' (bk O)<|vZ<|vn)<|fn) (m:=[(0,.arr 2 [.agg [.nil,.nil]],g1),(3,.arr 3 [am r],g10)]) (sc O<|sc O<|sn)) (wZ rg<|bq eI nT fG (es:=[.agg [iZ 2,eL bb [(⟨2,0,[0,1]⟩:GNode)],iZ 2],.agg [iZ 2,eL bb [(⟨3,0,[0,1]⟩:GNode)],iZ 2]]) O (kk:=3) O O O O O O (λg13=>ac<|aw (aZ 3 O) aS dZ bz O O (v:=am r) O<|ac<|aw (aZ 3 O) aS dZ bz O O (v:=am r) O<|wZ rg<|bq dM dh bF (es:=[am r,am r]) O (kk:=3) O O O O O O (λg14=>ac<|aw (aZ 3 O) aS dZ bz O O (v:=am r) O ?_))))
 refine ac<|aw (aZ 3 O) aS dZ bz O O (v:=am r) O<|wZ rg<|bq dM dh bF (es:=[am r,am r]) O (kk:=3) O O O O O O (λg15=>fw (bw (k:=18) (xs:=List.map am [r,r]) O (es:=[(0,.ptr rg 0 g1 0 0),(15,.sl 3 rg 15 g13 0 ([(⟨2,[(⟨2,0,[0,1]⟩:GNode)],2⟩:GFormula),(⟨2,[(⟨3,0,[0,1]⟩:GNode)],2⟩:GFormula)].length)),(18,eL am [r,r]),(21,.sl 3 rg 21 g15 0 ([r,r].length))]) (fZ<|fc (gh O)<|fc (bk O)<|fc (gh O)<|fn) (m:=[(0,.arr 2 [.agg [.nil,.nil]],g1),(15,.arr 3 (List.map an [(⟨2,[(⟨2,0,[0,1]⟩:GNode)],2⟩:GFormula),(⟨2,[(⟨3,0,[0,1]⟩:GNode)],2⟩:GFormula)]),g13),(21,.arr 3 (List.map am [r,r]),g15)]) (sc O<|sc O<|sc O<|sn)) (fw (bw (k:=21) (xs:=List.map am [r,r]) O (es:=[(0,.ptr rg 0 g1 0 0),(15,.sl 3 rg 15 g13 0 ([(⟨2,[(⟨2,0,[0,1]⟩:GNode)],2⟩:GFormula),(⟨2,[(⟨3,0,[0,1]⟩:GNode)],2⟩:GFormula)].length)),(18,eL am [r,r]),(21,eL am [r,r])]) (fZ<|fc (gh O)<|fZ<|fc (bk O)<|fn) (m:=[(0,.arr 2 [.agg [.nil,.nil]],g1),(15,.arr 3 (List.map an [(⟨2,[(⟨2,0,[0,1]⟩:GNode)],2⟩:GFormula),(⟨2,[(⟨3,0,[0,1]⟩:GNode)],2⟩:GFormula)]),g13)]) (sc O<|sc O<|sn)) (wZ rg<|bq fC Dt yu (es:=[eL am [r,r],eL am [r,r]]) O (kk:=1) O O O O O O (λg18=>?_))))
 refine ac<|bG xC lN vW uj dA (ps:=[(0,.sl 3 rg 15 g13 0 ([(⟨2,[(⟨2,0,[0,1]⟩:GNode)],2⟩:GFormula),(⟨2,[(⟨3,0,[0,1]⟩:GNode)],2⟩:GFormula)].length)),(1,.sl 1 rg 22 g18 0 ([[r,r],[r,r]].length))]) O O (v:=.agg [.sl 3 rg 15 g13 0 ([(⟨2,[(⟨2,0,[0,1]⟩:GNode)],2⟩:GFormula),(⟨2,[(⟨3,0,[0,1]⟩:GNode)],2⟩:GFormula)].length),.sl 1 rg 22 g18 0 ([[r,r],[r,r]].length)]) O (ac<|ay (aZ 0 O) dA dZ O (w:=.agg [.sl 3 rg 15 g13 0 ([(⟨2,[(⟨2,0,[0,1]⟩:GNode)],2⟩:GFormula),(⟨2,[(⟨3,0,[0,1]⟩:GNode)],2⟩:GFormula)].length),.sl 1 rg 22 g18 0 ([[r,r],[r,r]].length)]) O O O (v:=.agg [.sl 3 rg 15 g13 0 ([(⟨2,[(⟨2,0,[0,1]⟩:GNode)],2⟩:GFormula),(⟨2,[(⟨3,0,[0,1]⟩:GNode)],2⟩:GFormula)].length),.sl 1 rg 22 g18 0 ([[r,r],[r,r]].length)]) O aV (aE<|bc (aZ 0 O) dA dZ gA O O (v:=.agg [.sl 3 rg 15 g13 0 ([(⟨2,[(⟨2,0,[0,1]⟩:GNode)],2⟩:GFormula),(⟨2,[(⟨3,0,[0,1]⟩:GNode)],2⟩:GFormula)].length),.sl 1 rg 22 g18 0 ([[r,r],[r,r]].length)]) O (aK<|br (k:=15) (xs:=List.map an [(⟨2,[(⟨2,0,[0,1]⟩:GNode)],2⟩:GFormula),(⟨2,[(⟨3,0,[0,1]⟩:GNode)],2⟩:GFormula)]) O (v':=.agg [eL an [(⟨2,[(⟨2,0,[0,1]⟩:GNode)],2⟩:GFormula),(⟨2,[(⟨3,0,[0,1]⟩:GNode)],2⟩:GFormula)],.sl 1 rg 22 g18 0 ([[r,r],[r,r]].length)]) (VW.aggL<|vl' (bk O)<|vl' (gh O)<|vn) ?_)))
 exact br (k:=22) (xs:=List.map (eL am) [[r,r],[r,r]]) O (v':=.agg [eL an [(⟨2,[(⟨2,0,[0,1]⟩:GNode)],2⟩:GFormula),(⟨2,[(⟨3,0,[0,1]⟩:GNode)],2⟩:GFormula)],eL (eL am) [[r,r],[r,r]]]) (VW.aggL<|vZ<|vl' (bk O)<|vn) (goZ hrg<|hQ _ h)
theorem og {Q:Bool->Prop} (h:j8 Q) (hQ:∀r1,Q r1->R (AV.bool r1) S) :
  Ctr prog 27 [] S R:=by
 refine aI func27 rfl ntmps27 results27 krZ (λrg hrg=>?_)
 refine aj<|asZ (.bool false) O<|aU<|ac<|clZ O<|mI h λr h=>ac<|clZ O<|ov h λr1 r2 h=>mvZ (.tuple [eL am r1,aY 82 r2]) O<|ac<|ar (v:=eL am r1) O O O<|ac<|ar (v:=aY 82 r2) O O O<|asZ (eL am r1) O<|asZ (aY 82 r2) O<|aU<|ac<|clZ O<|mI h λr3 h=>ac<|clZ O<|rr h λr4 r5 h=>mvZ (.tuple [am r4,aY 82 r5]) O<|ac<|ar (v:=am r4) O O O<|ac<|ar (v:=aY 82 r5) O O O<|wZ rg<|aW bF dh (kk:=3) O (λg1=>ac<|ay (aZ 3 O) aS dZ O (w:=am r4) O O O (v:=am r4) O aV<|asZ (aY 82 r5) O<|nZ<|qZ<|bcZ h (λhb h=>?_) (λhb h=>?_))
 ·refine bcZ h (λhb1 h=>?_) (λhb1 h=>?_)
  ·obtain⟨r6,hc,h⟩:=h
   obtain⟨r7,hc1,h⟩:=h
   refine bcZ h (λhb2 h=>?_) (λhb2 h=>?_)
   ·obtain⟨r8,hc2,h⟩:=h
    obtain⟨r9,hc3,h⟩:=h
    obtain⟨r10,hc4,h⟩:=h
    refine Vc.drawn' bA rg (fH [(8,pc (am r6)),(9,pc (.bool r7)),(13,pc (am r8)),(14,pc (am r9)),(15,plc),(16,pc (.bool r10))]) krZ<|dP O O<|aA (v:=aY 82 r2) O<|dP O O<|j4 gk (E:=82) O O O<|dP O O<|aA (v:=.bool (Option.isNone r2)) O<|dGT O O hb<|dP O O<|aA (v:=aY 82 r5) O<|dGT O O O<|dP O O<|j4 gk (E:=82) O O O<|dP O O<|be O O (v:=.bool (Option.isNone r5)) O<|dP O O<|aA (v:=.bool (Option.isNone r5)) O<|dGT O O hb1<|dL (E:=([(rg,3)],[])) O O zSm (cfn) (aw (aZ 3 O) aS dZ bz O O (v:=am r4) O<|dGT O O O<|dC (vs:=[iZ 15,iZ 16]) O (vZ<|vZ<|vn) (λ_=>g_ hc (λ_ hr=>⟨by rw[hr],rfl⟩)) O<|dGT O O O<|dC (vs:=[am r4,am r6]) O (vZ<|vZ<|vn) (λ_=>n7 hc1 (λ_ hr=>⟨by rw[hr],rfl⟩)) O<|dP O O<|be O O (v:=.bool r7) O<|dP O O<|aA (v:=.bool r7) O<|dGT O O hb2<|dP O O<|aA (v:=eL am r1) O<|dGT O O O<|dC (vs:=[iZ 1,iZ 4]) O (vZ<|vZ<|vn) (λ_=>g_ hc2 (λ_ hr=>⟨by rw[hr],rfl⟩)) O<|dGT O O O<|dC (vs:=[iZ 11,iZ 16]) O (vZ<|vZ<|vn) (λ_=>g_ hc3 (λ_ hr=>⟨by rw[hr],rfl⟩)) O<|dGT O O O<|dB O dM dh bF (es:=[am r8,am r9]) O (kk:=3) O O O O O<|dGT O O O<|dC (vs:=[eL am r1,eL am [r8,r9]]) O (vZ<|vZ<|vn) (λ_=>qe hc4 (λ_ hr=>⟨by rw[hr],rfl⟩)) O<|dP O O<|be O O (v:=.bool r10) O ?_)
    exact dP O O<|a9 (v:=.bool r10) O<|dN<|uZ<|gv1 hrg<|hQ _ h
   exact Vc.drawn' bA rg (fH [(8,pc (am r6)),(9,pc (.bool r7))]) krZ<|dP O O<|aA (v:=aY 82 r2) O<|dP O O<|j4 gk (E:=82) O O O<|dP O O<|aA (v:=.bool (Option.isNone r2)) O<|dGT O O hb<|dP O O<|aA (v:=aY 82 r5) O<|dGT O O O<|dP O O<|j4 gk (E:=82) O O O<|dP O O<|be O O (v:=.bool (Option.isNone r5)) O<|dP O O<|aA (v:=.bool (Option.isNone r5)) O<|dGT O O hb1<|dL (E:=([(rg,3)],[])) O O zSm (cfn) (aw (aZ 3 O) aS dZ bz O O (v:=am r4) O<|dGT O O O<|dC (vs:=[iZ 15,iZ 16]) O (vZ<|vZ<|vn) (λ_=>g_ hc (λ_ hr=>⟨by rw[hr],rfl⟩)) O<|dGT O O O<|dC (vs:=[am r4,am r6]) O (vZ<|vZ<|vn) (λ_=>n7 hc1 (λ_ hr=>⟨by rw[hr],rfl⟩)) O<|dP O O<|be O O (v:=.bool r7) O<|dP O O<|aA (v:=.bool r7) O<|dGF O O hb2 O<|dGF O O O O<|dGF O O O O<|dGF O O O O<|dGF O O O O<|dP O O<|bd O O (v:=.bool false) O<|dP O O<|a9 (v:=.bool false) O<|dN<|uZ<|gv1 hrg<|hQ _ h)
  exact Vc.drawn' bA rg (λ_=>fS) krZ<|dP O O<|aA (v:=aY 82 r2) O<|dP O O<|j4 gk (E:=82) O O O<|dP O O<|aA (v:=.bool (Option.isNone r2)) O<|dGT O O hb<|dP O O<|aA (v:=aY 82 r5) O<|dGT O O O<|dP O O<|j4 gk (E:=82) O O O<|dP O O<|be O O (v:=.bool (Option.isNone r5)) O<|dP O O<|aA (v:=.bool (Option.isNone r5)) O<|dGF O O hb1 O<|dGF O O O O<|dGF O O O O<|dP O O<|bd O O (v:=.bool false) O<|dP O O<|aA (v:=.bool false) O<|dGF O O O O<|dGF O O O O<|dGF O O O O<|dGF O O O O<|dGF O O O O<|dP O O<|bd O O (v:=.bool false) O<|dP O O<|a9 (v:=.bool false) O<|dN<|uZ<|gv1 hrg<|hQ _ h
 exact Vc.drawn' bA rg (λ_=>fS) krZ<|dP O O<|aA (v:=aY 82 r2) O<|dP O O<|j4 gk (E:=82) O O O<|dP O O<|aA (v:=.bool (Option.isNone r2)) O<|dGF O O hb O<|dGF O O O O<|dP O O<|bd O O (v:=.bool false) O<|dP O O<|aA (v:=.bool false) O<|dGF O O O O<|dGF O O O O<|dGF O O O O<|dP O O<|bd O O (v:=.bool false) O<|dP O O<|aA (v:=.bool false) O<|dGF O O O O<|dGF O O O O<|dGF O O O O<|dGF O O O O<|dGF O O O O<|dP O O<|bd O O (v:=.bool false) O<|dP O O<|a9 (v:=.bool false) O<|dN<|uZ<|gv1 hrg<|hQ _ h
theorem tR {m:GMission} {Q:Bool->Prop} (h:nb m Q) (hQ:∀r1,Q r1->R (AV.bool r1) S) :
  Ctr prog 28 [aB m] S R:=by
 refine aI func28 rfl ntmps28 results28 krZ (λrg hrg=>?_)
 refine aj<|wZ rg<|bC (v:=aB m) O O (kk:=2) O dZ (λg1=>asZ (.bool false) O<|nZ<|qZ<|aj<|ac<|aF ca O<|ac<|af (aZ 1 O) eZ fD O O (v:=eL an m.N) O<|ac<|aJ eI O<|ac<|c9 O O<|mvZ (.bool<|decide<|20<(m.N.length:Int)) O<|gfZ h O O (λhb h=>?_) (λhb h=>?_))
 ·refine ac<|aF cD O<|gTZ O O hb<|ac<|af (aZ 1 O) gn h_ O O (v:=eL (eL am) m.P) O<|gTZ O O hb<|ac<|aJ fC O<|gTZ O O hb<|ac<|c9 O O<|ac<|bd O hb (v:=.bool (decide<|50<(m.P.length:Int))) O (nZ<|cZ h O (λhb1 h=>?_) (λhb1 h=>?_))
  ·exact aj<|asZ (.bool true) O<|aE<|gv1 hrg<|hQ _ h
  refine kZ<|qZ<|aj<|asZ (iZ 0) O<|nZ<|bZ<|lpZ h (λy=>ba [(1,.ptr rg 1 g1 0 0),(3,iZ y)]) (λy=>stL S rg [(1,.arr 2 [aB m],g1)]) (canon (fZ<|fZ<|fn)<|sc O<|sn) (λi _ h=>qZ<|aj<|mvZ (iZ i) O<|ac<|aF cD O<|ac<|af (aZ 1 O) gn h_ O O (v:=eL (eL am) m.P) O<|ac<|aJ fC O<|ac<|bj O O<|nZ<|cZ h O (λhb2 h=>?_) (λhb2 h=>?_))
  ·refine kZ<|qZ<|bZ<|qZ<|aj<|ac<|aF cD O<|ac<|af (aZ 1 O) gn h_ O O (v:=eL (eL am) m.P) O<|mvZ (iZ i) O<|tkZ h (λhg h=>ac<|aQ fC gp dZ (λ_=>O) O O hg<|ac<|aL gp oB O O (v:=eL am (at' m.P i)) O<|ac<|aJ dM O<|ac<|c9 O O<|nZ<|cZ h O (λhb3 h=>?_) (λhb3 h=>?_))
   ·exact aj<|asZ (.bool true) O<|aE<|gv1 hrg<|hQ _ h
   refine kZ<|aj<|asZ (iZ 0) O<|nZ<|bZ<|lpZ h (λy=>ba [(1,.ptr rg 1 g1 0 0),(3,iZ i),(4,iZ y)]) (λy=>stL S rg [(1,.arr 2 [aB m],g1)]) (canon (fZ<|fZ<|fZ<|fn)<|sc O<|sn) (λj _ h=>qZ<|aj<|mvZ (iZ j) O<|ac<|aF cD O<|ac<|af (aZ 1 O) gn h_ O O (v:=eL (eL am) m.P) O<|mvZ (iZ i) O<|tkZ h (λhg1 h=>ac<|aQ fC gp dZ (λ_=>O) O O hg1<|ac<|aL gp oB O O (v:=eL am (at' m.P i)) O<|ac<|aJ dM O<|ac<|bj O O<|nZ<|cZ h O (λhb4 h=>?_) (λhb4 h=>?_)))
   ·refine kZ<|qZ<|bZ<|aj<|ac<|aF cD O<|ac<|af (aZ 1 O) gn h_ O O (v:=eL (eL am) m.P) O<|mvZ (iZ i) O<|tkZ h (λhg2 h=>ac<|aQ fC gp dZ (λ_=>O) O O hg2<|ac<|aL gp oB O O (v:=eL am (at' m.P i)) O<|mvZ (iZ j) O<|tkZ h (λhg3 h=>ac<|aQ dM aS dZ (λ_=>O) O O hg3<|ac<|faZ iC O O<|ac<|aL iE jd O O (v:=ak ((at' (at' m.P i) j).J)) O (ac<|aJ bi O<|ac<|c9 O O<|mvZ (.bool<|decide<|4<(((at' (at' m.P i) j).J).length:Int)) O (gfZ h O O (λhb5 h=>?_) (λhb5 h=>?_)))))
    ·refine ac<|aF cD O<|gTZ O O hb5<|ac<|af (aZ 1 O) gn h_ O O (v:=eL (eL am) m.P) O<|gTZ O O hb5<|mvZ (iZ i) O<|gTZ O O hb5<|tkZ h (λhg4 h=>ac<|aQ fC gp dZ (λ_=>O) O O hg4<|gTZ O O hb5<|ac<|aL gp oB O O (v:=eL am (at' m.P i)) O<|gTZ O O hb5<|mvZ (iZ j) O<|gTZ O O hb5<|tkZ h (λhg5 h=>ac<|aQ dM aS dZ (λ_=>O) O O hg5<|gTZ O O hb5<|ac<|faZ jz O O<|gTZ O O hb5<|ac<|aL iE jd O O (v:=ak ((at' (at' m.P i) j).L)) O (gTZ O O hb5<|ac<|aJ bi O<|gTZ O O hb5<|ac<|c9 O O<|ac<|bd O hb5 (v:=.bool (decide<|4<(((at' (at' m.P i) j).L).length:Int))) O (nZ<|cZ h O (λhb6 h=>?_) (λhb6 h=>?_)))))
     ·exact aj<|asZ (.bool true) O<|aE<|gv1 hrg<|hQ _ h
     exact kZ<|rZ<|mvZ (iZ j) O<|tkZ h (λhg6 h=>ac<|aG O O hg6<|asZ (iZ<|j+1) O<|nZ<|⟨(j+1),(canon (fZ<|fZ<|fZ<|fn)<|sc O<|sn),h⟩)
    exact gFZ O O hb5 O<|gFZ O O hb5 O<|gFZ O O hb5 O<|gFZ O O hb5 O<|gFZ O O hb5 O<|gFZ O O hb5 O<|gFZ O O hb5 O<|gFZ O O hb5 O<|gFZ O O hb5 O<|gFZ O O hb5 O<|ac<|be O hb5 (v:=.bool true) O<|nZ<|cTZ O O<|aj<|asZ (.bool true) O<|aE<|gv1 hrg<|hQ _ h
   exact xsZ<|rZ<|mvZ (iZ i) O<|tkZ h (λhg7 h=>ac<|aG O O hg7<|asZ (iZ<|i+1) O<|nZ<|⟨(i+1),(canon (fZ<|fZ<|fn)<|sc O<|sn),h⟩)
  refine xsZ<|aj<|ac<|aw (aZ 1 O) dA dZ gA O O (v:=aB m) O<|ac<|clZ O<|oa h λr h=>ac<|bK O O<|mvZ (.bool<|r == 0) O<|gtZ h O O (λhb7 h=>?_) (λhb7 h=>?_)
  ·refine ac<|aw (aZ 1 O) dA dZ gA O O (v:=aB m) O<|gTZ O O hb7<|ac<|clZ O<|kY h λr1 h=>gTZ O O hb7<|ac<|c9 O O<|ac<|be O hb7 (v:=.bool (decide<|300<r1)) O (mvZ (.bool<|decide<|300<r1) O<|gtZ h O O (λhb8 h=>?_) (λhb8 h=>?_))
   ·exact ac<|aw (aZ 1 O) dA dZ gA O O (v:=aB m) O<|gTZ O O hb8<|ac<|clZ O<|kY h λr2 h=>gTZ O O hb8<|ac<|ta O O<|ac<|be O hb8 (v:=.bool (decide<|r2<=4096)) O (asZ (.bool<|decide<|r2<=4096) O<|aE<|gv1 hrg<|hQ _ h)
   exact gFZ O O hb8 O<|gFZ O O hb8 O<|ac<|bd O hb8 (v:=.bool false) O<|asZ (.bool false) O<|aE<|gv1 hrg<|hQ _ h
  exact gFZ O O hb7 O<|gFZ O O hb7 O<|ac<|bd O hb7 (v:=.bool false) O<|mvZ (.bool false) O<|gFZ O O O O<|gFZ O O O O<|gFZ O O O O<|ac<|bd O O (v:=.bool false) O<|asZ (.bool false) O<|aE<|gv1 hrg<|hQ _ h
 exact gFZ O O hb O<|gFZ O O hb O<|gFZ O O hb O<|ac<|be O hb (v:=.bool true) O<|nZ<|cTZ O O<|aj<|asZ (.bool true) O<|aE<|gv1 hrg<|hQ _ h
end Go.Proofs.YtnjgdkfhgmebjaaGreat
namespace Go.Proofs.YtnjgdkfhgmebjaaGreat
open Go.Gg Tryz
set_option maxRecDepth 100000
variable {S:St} {R:AV->St->Prop}
theorem sJ {a:GFormula} {b:GFormula} {Q:Bool->Prop} (h:ml a b Q) (hQ:∀r1,Q r1->R (AV.bool r1) S) :
  Ctr prog 21 [an a,an b] S R:=by
 refine aI func21 rfl ntmps21 results21 krZ (λrg hrg=>?_)
 refine aj<|wZ rg<|bC (v:=an a) O O (kk:=3) O dZ (λg1=>wZ rg<|bC (v:=an b) O O (kk:=3) O dZ (λg2=>asZ (.bool false) O<|nZ<|qZ<|aj<|ac<|aF cd O<|ac<|af (aZ 2 O) sz3 ag3 O O (v:=iZ a.A) O<|ac<|aF cd O<|ac<|af (aZ 3 O) sz3 ag3 O O (v:=iZ b.A) O<|ac<|c8 O O<|mvZ (.bool<|a.A != b.A) O<|gfZ h O O (λhb h=>?_) (λhb h=>?_)))
 ·refine ac<|aF jA O<|gTZ O O hb<|ac<|af (aZ 2 O) sz3 ag3 O O (v:=iZ a.F) O<|gTZ O O hb<|ac<|aF jA O<|gTZ O O hb<|ac<|af (aZ 3 O) sz3 ag3 O O (v:=iZ b.F) O<|gTZ O O hb<|ac<|c8 O O<|ac<|bd O hb (v:=.bool (a.F != b.F)) O<|mvZ (.bool<|a.F != b.F) O<|gfZ h O O (λhb1 h=>?_) (λhb1 h=>?_)
  ·refine ac<|aF b6 O<|gTZ O O hb1<|ac<|af (aZ 2 O) eJ fv O O (v:=eL bb a.V) O<|gTZ O O hb1<|ac<|aJ d5 O<|gTZ O O hb1<|ac<|aF b6 O<|gTZ O O hb1<|ac<|af (aZ 3 O) eJ fv O O (v:=eL bb b.V) O<|gTZ O O hb1<|ac<|aJ d5 O<|gTZ O O hb1<|ac<|c8 O O<|ac<|bd O hb1 (v:=.bool ((a.V.length:Int) != (b.V.length:Int))) O (nZ<|cZ h O (λhb2 h=>?_) (λhb2 h=>?_))
   ·exact aj<|asZ (.bool false) O<|aE<|gv1 hrg<|hQ _ h
   refine kZ<|qZ<|aj<|ac<|aF b6 O<|ac<|af (aZ 2 O) eJ fv O O (v:=eL bb a.V) O<|ac<|aJ d5 O<|mvZ (iZ 0) O<|nZ<|bZ<|lpZ h (λy=>ba [(2,.ptr rg 2 g1 0 0),(3,.ptr rg 3 g2 0 0),(29,iZ (a.V.length:Int)),(30,iZ y)]) (λy=>stL S rg [(2,.arr 3 [an a],g1),(3,.arr 3 [an b],g2)]) (canon (aP<|fn)<|sc O<|sc O<|sn) (λx _ h=>aj<|ac<|bj O O<|nZ<|qZ<|cZ h O (λhb3 h=>?_) (λhb3 h=>?_))
   ·refine kZ<|qZ<|bZ<|aj<|mvZ (iZ x) O<|asZ (iZ x) O<|nZ<|qZ<|tkZ h (λhg h=>tkZ h (λhg1 h=>bcZ h (λhb4 h=>?_) (λhb4 h=>?_)))
    ·exact Vc.drawn' bA rg (λ_=>fS) krZ<|dP O O<|aF b6 O<|dL (E:=([(rg,2)],[])) O O zSm (cfn) (af (aZ 2 O) eJ fv O O (v:=eL bb a.V) O<|dP O O<|aA (v:=iZ x) O<|dP O O<|aQ d5 cU dZ (λ_=>O) O O hg<|dP O O<|faZ ft O O<|dP O O<|aL sz3 ag3 O O (v:=iZ ((at' a.V x).D)) O (dP O O<|aF b6 O<|dL (E:=([(rg,3)],[])) O O zSm (cfa zAp<|cfn) (af (aZ 3 O) eJ fv O O (v:=eL bb b.V) O<|dP O O<|aA (v:=iZ x) O<|dP O O<|aQ d5 cU dZ (λ_=>O) O O hg1<|dP O O<|faZ ft O O<|dP O O<|aL sz3 ag3 O O (v:=iZ ((at' b.V x).D)) O (dP O O<|c8 O O<|dP O O<|aA (v:=.bool ((at' a.V x).D != (at' b.V x).D)) O (dGF O O hb4 O<|dGF O O O O<|dGF O O O O<|dGF O O O O<|dGF O O O O<|dGF O O O O<|dGF O O O O<|dGF O O O O<|dGF O O O O<|dGF O O O O<|dGF O O O O<|dGF O O O O<|dGF O O O O<|dP O O<|be O O (v:=.bool true) O<|dP O O<|aA (v:=.bool true) O<|dGF O O O O<|dGF O O O O<|dGF O O O O<|dGF O O O O<|dGF O O O O<|dGF O O O O<|dGF O O O O<|dGF O O O O<|dGF O O O O<|dGF O O O O<|dGF O O O O<|dGF O O O O<|dGF O O O O<|dGF O O O O<|dP O O<|be O O (v:=.bool true) O<|dN<|cTZ O O<|aj<|asZ (.bool false) O<|aE<|gv1 hrg<|hQ _ h)))))
    refine tkZ h (λhg2 h=>tkZ h (λhg3 h=>bcZ h (λhb5 h=>?_) (λhb5 h=>?_)))
    ·refine Vc.drawn' bA rg (λ_=>fS) krZ<|dP O O<|aF b6 O<|dL (E:=([(rg,2)],[])) O O zSm (cfn) (af (aZ 2 O) eJ fv O O (v:=eL bb a.V) O<|dP O O<|aA (v:=iZ x) O<|dP O O<|aQ d5 cU dZ (λ_=>O) O O hg<|dP O O<|faZ ft O O<|dP O O<|aL sz3 ag3 O O (v:=iZ ((at' a.V x).D)) O (dP O O<|aF b6 O<|dL (E:=([(rg,3)],[])) O O zSm (cfa zAp<|cfn) (af (aZ 3 O) eJ fv O O (v:=eL bb b.V) O<|dP O O<|aA (v:=iZ x) O<|dP O O<|aQ d5 cU dZ (λ_=>O) O O hg1<|dP O O<|faZ ft O O<|dP O O<|aL sz3 ag3 O O (v:=iZ ((at' b.V x).D)) O (dP O O<|c8 O O<|dP O O<|aA (v:=.bool ((at' a.V x).D != (at' b.V x).D)) O (dGT O O hb4<|dP O O<|aF b6 O<|dGT O O O<|dL (E:=([(rg,2)],[])) O O zSm (cfo krZ<|cfo krZ<|cfn) (af (aZ 2 O) eJ fv O O (v:=eL bb a.V) O<|dGT O O O<|dP O O<|aA (v:=iZ x) O<|dGT O O O<|dP O O<|aQ d5 cU dZ (λ_=>O) O O hg2<|dGT O O O<|dP O O<|faZ dW O O<|dGT O O O<|dP O O<|aL sz3 ag3 O O (v:=iZ ((at' a.V x).K)) O (dGT O O O<|dP O O<|aF b6 O<|dGT O O O<|dL (E:=([(rg,3)],[])) O O zSm (cfa zAp<|cfo krZ<|cfo krZ<|cfn) (af (aZ 3 O) eJ fv O O (v:=eL bb b.V) O<|dGT O O O<|dP O O<|aA (v:=iZ x) O<|dGT O O O ?_))))))))
     exact dP O O<|aQ d5 cU dZ (λ_=>O) O O hg3<|dGT O O O<|dP O O<|faZ dW O O<|dGT O O O<|dP O O<|aL sz3 ag3 O O (v:=iZ ((at' b.V x).K)) O (dGT O O O<|dP O O<|c8 O O<|dP O O<|bd O O (v:=.bool ((at' a.V x).K != (at' b.V x).K)) O (dP O O<|aA (v:=.bool ((at' a.V x).K != (at' b.V x).K)) O (dGF O O hb5 O<|dGF O O O O<|dGF O O O O<|dGF O O O O<|dGF O O O O<|dGF O O O O<|dGF O O O O<|dGF O O O O<|dGF O O O O<|dGF O O O O<|dGF O O O O<|dGF O O O O<|dGF O O O O<|dGF O O O O<|dP O O<|be O O (v:=.bool true) O<|dN<|cTZ O O<|aj<|asZ (.bool false) O<|aE<|gv1 hrg<|hQ _ h)))
    refine tkZ h (λhg4 h=>tkZ h (λhg5 h=>?_))
    obtain⟨r,hc,h⟩:=h
    refine Vc.drawn' bA rg (fH [(41,pc (.bool r))]) krZ<|dP O O<|aF b6 O<|dL (E:=([(rg,2)],[])) O O zSm (cfn) (af (aZ 2 O) eJ fv O O (v:=eL bb a.V) O<|dP O O<|aA (v:=iZ x) O<|dP O O<|aQ d5 cU dZ (λ_=>O) O O hg<|dP O O<|faZ ft O O<|dP O O<|aL sz3 ag3 O O (v:=iZ ((at' a.V x).D)) O (dP O O<|aF b6 O<|dL (E:=([(rg,3)],[])) O O zSm (cfa zAp<|cfn) (af (aZ 3 O) eJ fv O O (v:=eL bb b.V) O<|dP O O<|aA (v:=iZ x) O<|dP O O<|aQ d5 cU dZ (λ_=>O) O O hg1<|dP O O<|faZ ft O O<|dP O O<|aL sz3 ag3 O O (v:=iZ ((at' b.V x).D)) O (dP O O<|c8 O O<|dP O O<|aA (v:=.bool ((at' a.V x).D != (at' b.V x).D)) O (dGT O O hb4<|dP O O<|aF b6 O<|dGT O O O<|dL (E:=([(rg,2)],[])) O O zSm (cfo krZ<|cfo krZ<|cfn) (af (aZ 2 O) eJ fv O O (v:=eL bb a.V) O<|dGT O O O<|dP O O<|aA (v:=iZ x) O<|dGT O O O<|dP O O<|aQ d5 cU dZ (λ_=>O) O O hg2<|dGT O O O<|dP O O<|faZ dW O O<|dGT O O O<|dP O O<|aL sz3 ag3 O O (v:=iZ ((at' a.V x).K)) O (dGT O O O<|dP O O<|aF b6 O<|dGT O O O<|dL (E:=([(rg,3)],[])) O O zSm (cfa zAp<|cfo krZ<|cfo krZ<|cfn) (af (aZ 3 O) eJ fv O O (v:=eL bb b.V) O<|dGT O O O<|dP O O<|aA (v:=iZ x) O<|dGT O O O ?_))))))))
    refine dP O O<|aQ d5 cU dZ (λ_=>O) O O hg3<|dGT O O O<|dP O O<|faZ dW O O<|dGT O O O<|dP O O<|aL sz3 ag3 O O (v:=iZ ((at' b.V x).K)) O (dGT O O O<|dP O O<|c8 O O<|dP O O<|bd O O (v:=.bool ((at' a.V x).K != (at' b.V x).K)) O (dP O O<|aA (v:=.bool ((at' a.V x).K != (at' b.V x).K)) O (dGT O O hb5<|dP O O<|aF b6 O<|dGT O O O<|dL (E:=([(rg,2)],[])) O O zSm (cfo krZ<|cfo krZ<|cfo krZ<|cfo krZ<|cfn) (af (aZ 2 O) eJ fv O O (v:=eL bb a.V) O<|dGT O O O<|dP O O<|aA (v:=iZ x) O<|dGT O O O<|dP O O<|aQ d5 cU dZ (λ_=>O) O O hg4<|dGT O O O<|dP O O<|faZ eB O O<|dGT O O O<|dP O O<|aL fo jc O O (v:=bt ((at' a.V x).M)) O (dGT O O O<|dP O O<|aF b6 O<|dGT O O O<|dL (E:=([(rg,3)],[])) O O zSm (cfa zAp<|cfo krZ<|cfo krZ<|cfo krZ<|cfo krZ<|cfn) (af (aZ 3 O) eJ fv O O (v:=eL bb b.V) O<|dGT O O O<|dP O O<|aA (v:=iZ x) O<|dGT O O O<|dP O O<|aQ d5 cU dZ (λ_=>O) O O hg5<|dGT O O O<|dP O O<|faZ eB O O<|dGT O O O<|dP O O<|aL fo jc O O (v:=bt ((at' b.V x).M)) O (dGT O O O<|dC (vs:=[bt ((at' a.V x).M),bt ((at' b.V x).M)]) O (vZ<|vZ<|vn) (λ_=>wL hc (λ_ hr=>⟨by rw[hr],rfl⟩)) O<|dGT O O O<|dP O O<|gK O<|dP O O<|bd O O (v:=.bool (!r)) O<|dN ?_)))))))
    refine cZ h O (λhb6 h=>?_) (λhb6 h=>?_)
    ·exact aj<|asZ (.bool false) O<|aE<|gv1 hrg<|hQ _ h
    exact kZ<|rZ<|tkZ h (λhg6 h=>ac<|aG O O hg6<|mvZ (iZ<|x+1) O<|nZ<|⟨(x+1),(canon (aP<|fn)<|sc O<|sc O<|sn),h⟩)
   exact xsZ<|aj<|asZ (.bool true) O<|aE<|gv1 hrg<|hQ _ h
  exact gFZ O O hb1 O<|gFZ O O hb1 O<|gFZ O O hb1 O<|gFZ O O hb1 O<|gFZ O O hb1 O<|gFZ O O hb1 O<|ac<|be O hb1 (v:=.bool true) O<|nZ<|cTZ O O<|aj<|asZ (.bool false) O<|aE<|gv1 hrg<|hQ _ h
 exact gFZ O O hb O<|gFZ O O hb O<|gFZ O O hb O<|gFZ O O hb O<|ac<|be O hb (v:=.bool true) O<|mvZ (.bool true) O<|gFZ O O O O<|gFZ O O O O<|gFZ O O O O<|gFZ O O O O<|gFZ O O O O<|gFZ O O O O<|gFZ O O O O<|ac<|be O O (v:=.bool true) O<|nZ<|cTZ O O<|aj<|asZ (.bool false) O<|aE<|gv1 hrg<|hQ _ h
end Go.Proofs.YtnjgdkfhgmebjaaGreat
namespace Go.Proofs.YtnjgdkfhgmebjaaGreat
open Go.Gg Tryz
set_option maxRecDepth 100000
variable {S:St} {R:AV->St->Prop}
theorem oX {a:GMission} {b:GMission} {Q:Bool->Prop} (h:jx a b Q) (hQ:∀r1,Q r1->R (AV.bool r1) S) :
  Ctr prog 48 [aB a,aB b] S R:=by
 refine aI func48 rfl ntmps48 results48 krZ (λrg hrg=>?_)
 refine aj<|wZ rg<|bC (v:=aB a) O O (kk:=2) O dZ (λg1=>wZ rg<|bC (v:=aB b) O O (kk:=2) O dZ (λg2=>asZ (.bool false) O<|nZ<|qZ<|aj<|ac<|aF ca O<|ac<|af (aZ 2 O) eZ fD O O (v:=eL an a.N) O<|ac<|aJ eI O<|ac<|aF ca O<|ac<|af (aZ 3 O) eZ fD O O (v:=eL an b.N) O<|ac<|aJ eI O<|ac<|c8 O O<|mvZ (.bool<|(a.N.length:Int) != (b.N.length:Int)) O (gfZ h O O (λhb h=>?_) (λhb h=>?_))))
 ·refine ac<|aF cD O<|gTZ O O hb<|ac<|af (aZ 2 O) gn h_ O O (v:=eL (eL am) a.P) O<|gTZ O O hb<|ac<|aJ fC O<|gTZ O O hb<|ac<|aF cD O<|gTZ O O hb<|ac<|af (aZ 3 O) gn h_ O O (v:=eL (eL am) b.P) O<|gTZ O O hb<|ac<|aJ fC O<|gTZ O O hb<|ac<|c8 O O<|ac<|bd O hb (v:=.bool ((a.P.length:Int) != (b.P.length:Int))) O (nZ<|cZ h O (λhb1 h=>?_) (λhb1 h=>?_))
  ·exact aj<|asZ (.bool false) O<|aE<|gv1 hrg<|hQ _ h
  refine kZ<|qZ<|aj<|asZ (iZ 0) O<|nZ<|bZ<|lpZ h (λy=>ba [(2,.ptr rg 2 g1 0 0),(3,.ptr rg 3 g2 0 0),(5,iZ y)]) (λy=>stL S rg [(2,.arr 2 [aB a],g1),(3,.arr 2 [aB b],g2)]) (canon (fZ<|fZ<|fZ<|fn)<|sc O<|sc O<|sn) (λj _ h=>qZ<|aj<|mvZ (iZ j) O<|ac<|aF ca O<|ac<|af (aZ 2 O) eZ fD O O (v:=eL an a.N) O<|ac<|aJ eI O<|ac<|bj O O<|nZ<|cZ h O (λhb2 h=>?_) (λhb2 h=>?_))
  ·refine kZ<|qZ<|bZ<|qZ<|tkZ h (λhg h=>tkZ h (λhg1 h=>?_))
   obtain⟨r,hc,h⟩:=h
   refine Vc.drawn' bA rg (fH [(10,pc (.bool r))]) krZ<|dP O O<|aF ca O<|dL (E:=([(rg,2)],[])) O O zSm (cfn) (af (aZ 2 O) eZ fD O O (v:=eL an a.N) O<|dP O O<|aA (v:=iZ j) O<|dP O O<|aQ eI ct dZ (λ_=>O) O O hg<|dP O O<|cn ct dZ fE O O (v:=an (at' a.N j)) O<|dP O O<|aF ca O<|dL (E:=([(rg,3)],[])) O O zSm (cfa zAp<|cfn) (af (aZ 3 O) eZ fD O O (v:=eL an b.N) O<|dP O O<|aA (v:=iZ j) O<|dP O O<|aQ eI ct dZ (λ_=>O) O O hg1<|dP O O<|cn ct dZ fE O O (v:=an (at' b.N j)) O<|dC (vs:=[an (at' a.N j),an (at' b.N j)]) O (vZ<|vZ<|vn) (λ_=>sJ hc (λ_ hr=>⟨by rw[hr],rfl⟩)) O<|dP O O<|gK O<|dN<|cZ h O (λhb3 h=>?_) (λhb3 h=>?_)))
   ·exact aj<|asZ (.bool false) O<|aE<|gv1 hrg<|hQ _ h
   exact kZ<|rZ<|mvZ (iZ j) O<|tkZ h (λhg2 h=>ac<|aG O O hg2<|asZ (iZ<|j+1) O<|nZ<|⟨(j+1),(canon (fZ<|fZ<|fZ<|fn)<|sc O<|sc O<|sn),h⟩)
  refine xsZ<|qZ<|aj<|asZ (iZ 0) O<|nZ<|bZ<|lpZ h (λy=>ba [(2,.ptr rg 2 g1 0 0),(3,.ptr rg 3 g2 0 0),(6,iZ y)]) (λy=>stL S rg [(2,.arr 2 [aB a],g1),(3,.arr 2 [aB b],g2)]) (canon (fZ<|fZ<|fZ<|fn)<|sc O<|sc O<|sn) (λi _ h=>qZ<|aj<|mvZ (iZ i) O<|ac<|aF cD O<|ac<|af (aZ 2 O) gn h_ O O (v:=eL (eL am) a.P) O<|ac<|aJ fC O<|ac<|bj O O<|nZ<|cZ h O (λhb4 h=>?_) (λhb4 h=>?_))
  ·refine kZ<|qZ<|bZ<|qZ<|tkZ h (λhg3 h=>tkZ h (λhg4 h=>?_))
   obtain⟨r1,hc1,h⟩:=h
   refine Vc.drawn' bA rg (fH [(10,pc (.bool r1))]) krZ<|dP O O<|aF cD O<|dL (E:=([(rg,2)],[])) O O zSm (cfn) (af (aZ 2 O) gn h_ O O (v:=eL (eL am) a.P) O<|dP O O<|aA (v:=iZ i) O<|dP O O<|aQ fC gp dZ (λ_=>O) O O hg3<|dP O O<|aL gp oB O O (v:=eL am (at' a.P i)) O<|dP O O<|aF cD O<|dL (E:=([(rg,3)],[])) O O zSm (cfa zAp<|cfn) (af (aZ 3 O) gn h_ O O (v:=eL (eL am) b.P) O<|dP O O<|aA (v:=iZ i) O<|dP O O<|aQ fC gp dZ (λ_=>O) O O hg4<|dP O O<|aL gp oB O O (v:=eL am (at' b.P i)) O<|dC (vs:=[eL am (at' a.P i),eL am (at' b.P i)]) O (vZ<|vZ<|vn) (λ_=>qe hc1 (λ_ hr=>⟨by rw[hr],rfl⟩)) O<|dP O O<|gK O<|dN<|cZ h O (λhb5 h=>?_) (λhb5 h=>?_)))
   ·exact aj<|asZ (.bool false) O<|aE<|gv1 hrg<|hQ _ h
   exact kZ<|rZ<|mvZ (iZ i) O<|tkZ h (λhg5 h=>ac<|aG O O hg5<|asZ (iZ<|i+1) O<|nZ<|⟨(i+1),(canon (fZ<|fZ<|fZ<|fn)<|sc O<|sc O<|sn),h⟩)
  exact xsZ<|aj<|asZ (.bool true) O<|aE<|gv1 hrg<|hQ _ h
 exact gFZ O O hb O<|gFZ O O hb O<|gFZ O O hb O<|gFZ O O hb O<|gFZ O O hb O<|gFZ O O hb O<|ac<|be O hb (v:=.bool true) O<|nZ<|cTZ O O<|aj<|asZ (.bool false) O<|aE<|gv1 hrg<|hQ _ h
end Go.Proofs.YtnjgdkfhgmebjaaGreat
namespace Go.Proofs.YtnjgdkfhgmebjaaGreat
open Go.Gg Tryz
set_option maxRecDepth 100000
variable {S:St} {R:AV->St->Prop}
theorem si {a:GRat} {b:GRat} {Q:GRat->Option Int->Prop} (h:gT a b Q) (hQ:∀r1 r2,Q r1 r2->R (.tuple [am r1,aY 82 r2]) S) :
  Ctr prog 122 [am a,am b] S R:=by
 refine aI func122 rfl ntmps122 results122 krZ (λrg hrg=>?_)
 refine aj<|wZ rg<|bC (v:=am a) O O (kk:=3) O dZ (λg1=>wZ rg<|bC (v:=am b) O O (kk:=3) O dZ (λg2=>wZ rg<|aW bF dh (kk:=3) O (λg3=>asZ .niface O<|aU<|ac<|aw (aZ 2 O) aS dZ bz O O (v:=am a) O<|ac<|clZ O<|c7 h λr r1 r2 h=>mvZ (.tuple [.bool r,ak r1,ak r2]) O<|ac<|ar (v:=.bool r) O O O<|ac<|ar (v:=ak r1) O O O<|ac<|ar (v:=ak r2) O O O<|asZ (.bool r) O<|asZ (ak r1) O<|asZ (ak r2) O<|aU<|ac<|aw (aZ 3 O) aS dZ bz O O (v:=am b) O<|ac<|clZ O<|c7 h λr3 r4 r5 h=>mvZ (.tuple [.bool r3,ak r4,ak r5]) O<|ac<|ar (v:=.bool r3) O O O<|ac<|ar (v:=ak r4) O O O<|ac<|ar (v:=ak r5) O O O<|asZ (.bool r3) O<|asZ (ak r4) O<|asZ (ak r5) O<|nZ<|qZ<|aj<|mvZ (ak r4) O<|ac<|aJ bi O<|ac<|bK O O<|nZ<|cZ h O (λhb h=>?_) (λhb h=>?_))))
 ·exact aj<|ac<|bG nK bF li kX aS (ps:=[]) O O (v:=.agg [.bool false,.nil,.nil]) O<|ac<|cm (by rw[gQ];trivial) (v:=iZ 8) O<|ac<|ay (aZ 4 O) aS dZ O (w:=.agg [.bool false,.nil,.nil]) O O O (v:=.agg [.bool false,.nil,.nil]) O aV<|asZ (.iface 82<|iZ 8) O<|aE<|bc (aZ 4 O) aS dZ bz O O (v:=.agg [.bool false,.nil,.nil]) O<|aC (v:=.iface 82 (iZ 8)) O<|aK<|aO hrg (VW.tupL<|vl' (VW.aggL<|vZ<|vl' (VW.nilL)<|vl' (VW.nilL)<|vn)<|vZ<|vn)<|hQ _ _ h
 exact kZ<|aj<|mvZ (.bool r) O<|mvZ (.bool r3) O<|ac<|uY td4 O O<|mvZ (ak r1) O<|mvZ (ak r5) O<|ac<|clZ O<|eF h λr6 h=>mvZ (ak r2) O<|mvZ (ak r4) O<|ac<|clZ O<|eF h λr7 h=>ac<|clZ O<|dk h λr8 h=>ac<|ay (aZ 4 O) aS dZ O (w:=am r8) O O O (v:=am r8) O aV<|asZ .niface O<|aE<|bc (aZ 4 O) aS dZ bz O O (v:=am r8) O<|aC (v:=.niface) O<|aK<|aO hrg (VW.tupL<|vZ<|vZ<|vn)<|hQ _ _ h
end Go.Proofs.YtnjgdkfhgmebjaaGreat
namespace Go.Proofs.YtnjgdkfhgmebjaaGreat
open Go.Gg Tryz
set_option maxRecDepth 100000
variable {S:St} {R:AV->St->Prop}
theorem fp {s:List Int} {Q:List Int->Prop} (h:cQ s Q) (hQ:∀r1,Q r1->R (ak r1) S) :
  Ctr prog 153 [ak s] S R:=by
 refine aI func153 rfl ntmps153 results153 krZ (λrg hrg=>?_)
 refine aj<|asZ .nil O<|nZ<|qZ<|aj<|mvZ (ak s) O<|Wl.isnil bi O O (λisnil hn=>?_)
 replace h:=h isnil hn
 refine nZ<|cZ h O (λhb h=>?_) (λhb h=>?_)
 ·exact aj<|asZ .nil O<|aE<|aC (v:=.nil) O<|aK<|aO hrg (VW.nilL)<|hQ _ h
 exact kZ<|aj<|wZ rg<|bq bi dJ cH (es:=[]) O (kk:=1) O O O O O O (λg1=>mvZ (ak s) O<|tkZ h (λhg h=>wZ rg<|cS bi fU dJ cH (es:=([]:List Int)) (xs:=s) (enc:=AV.int .u32) (aZ 5 O) lzZ (O) (kk:=1) O O (λ_=>O) (λ_=>O) hg O (λ_=>aV) (λg2=>asZ (.sl 1 rg 5 g2 0<|(([]:List Int)++s).length) O<|aE<|aC (v:=.sl 1 rg 5 g2 0 ((([]:List Int)++s).length)) O (aK<|br (k:=5) (xs:=List.map (AV.int .u32) (([]:List Int)++s)) O (v':=ak (([]:List Int)++s)) (bk O) (goZ hrg<|hQ _ h)))))
end Go.Proofs.YtnjgdkfhgmebjaaGreat
namespace Go.Proofs.YtnjgdkfhgmebjaaGreat
open Go.Gg Tryz
set_option maxRecDepth 100000
variable {S:St} {R:AV->St->Prop}
theorem mH {m:GMission} {j:Int} {Q:Option Int->Prop} (h:iQ m j Q) (hQ:∀r1,Q r1->R (aY 82 r1) S) :
  Ctr prog 104 [aB m,iZ j] S R:=by
 refine aI func104 rfl ntmps104 results104 krZ (λrg hrg=>?_)
 refine aj<|wZ rg<|bC (v:=aB m) O O (kk:=2) O dZ (λg1=>asZ .niface O<|nZ<|qZ<|aj<|ac<|aw (aZ 2 O) dA dZ gA O O (v:=aB m) O<|ac<|clZ O<|ip h λerr h=>asZ (aY 82 err) O<|aU<|mvZ (aY 82 err) O<|ac<|cK gk (E:=82) O O O<|nZ<|cZ h O (λhb h=>?_) (λhb h=>?_))
 ·exact aj<|mvZ (aY 82 err) O<|asZ (aY 82 err) O<|aE<|gv1 hrg<|hQ _ h
 refine kZ<|qZ<|jnZ h (λy=>ba [(19,.bool y)]) (λy=>stL S rg []) (λx h=>?_) (λ_ h=>?_)
 ·refine cZ h O (λhb1 h=>?_) (λhb1 h=>?_)
  ·exact aj<|ac<|cm (by rw[gQ];trivial) (v:=iZ 10) O<|asZ (.iface 82<|iZ 10) O<|aE<|gv1 hrg<|hQ _ h
  exact kZ<|aj<|asZ .niface O<|aE<|gv1 hrg<|hQ _ h
 refine rZ<|mvZ (iZ j) O<|ac<|bj O O<|mvZ (.bool<|decide<|j<0) O<|gfZ h O O (λhb2 h=>?_) (λhb2 h=>?_)
 ·exact mvZ (iZ j) O<|gTZ O O hb2<|ac<|aF ca O<|gTZ O O hb2<|ac<|af (aZ 2 O) eZ fD O O (v:=eL an m.N) O<|gTZ O O hb2<|ac<|aJ eI O<|gTZ O O hb2<|ac<|fB O O<|ac<|bd O hb2 (v:=.bool (decide<|(m.N.length:Int)<=j)) O (nZ<|⟨(decide<|(m.N.length:Int)<=j),(canon (fZ<|fn)<|sn),h⟩)
 exact gFZ O O hb2 O<|gFZ O O hb2 O<|gFZ O O hb2 O<|gFZ O O hb2 O<|ac<|be O hb2 (v:=.bool true) O<|nZ<|⟨true,(canon (fZ<|fn)<|sn),h⟩
theorem ma {f:GFormula} {Q:GFormula->Prop} (h:iq f Q) (hQ:∀r1,Q r1->R (an r1) S) :
  Ctr prog 105 [an f] S R:=by
 refine aI func105 rfl ntmps105 results105 krZ (λrg hrg=>?_)
 refine aj<|wZ rg<|bC (v:=an f) O O (kk:=3) O dZ (λg1=>wZ rg<|aW fG nT (kk:=3) O (λg2=>aU<|ac<|aF cd O<|ac<|af (aZ 1 O) sz3 ag3 O O (v:=iZ f.A) O<|ac<|aF jA O<|ac<|af (aZ 1 O) sz3 ag3 O O (v:=iZ f.F) O<|ac<|bG ug fG tk sR ct (ps:=[(0,iZ f.A),(2,iZ f.F)]) O O (v:=.agg [iZ f.A,.nil,iZ f.F]) O (wZ rg<|aW fG nT (kk:=3) O (λg3=>ac<|ay (aZ 3 O) ct dZ O (w:=.agg [iZ f.A,.nil,iZ f.F]) O O O (v:=.agg [iZ f.A,.nil,iZ f.F]) O aV<|nZ<|qZ<|aj<|ac<|aF b6 O<|ac<|af (aZ 1 O) eJ fv O O (v:=eL bb f.V) O<|ac<|aJ d5 O<|mvZ (iZ 0) O<|nZ<|bZ<|Vc.matB 3 1 29 3 (b:=λg4=>.agg [iZ f.A,.sl 3 rg 29 g4 0 0,iZ f.F]) O O dZ dZ O (λg4=>lgZ h g4 (λy=>ba [(2,.ptr rg 2 g2 0 0),(3,.ptr rg 3 g3 0 0),(12,eL bb f.V),(13,iZ (f.V.length:Int)),(14,iZ y.1.1)]) (λy=>stL S rg [(2,.arr 3 [.agg [iZ 0,.nil,iZ 0]],g2),(3,.arr 3 [.agg [iZ f.A,.sl 3 rg 29 y.2 0 y.1.2.length,iZ f.F]],g3),(29,.arr 3 (List.map bb y.1.2),y.2)]) (EWk.trans (EWk.ow (k:=3) (o':=.arr 3 [.agg [iZ f.A,.sl 3 rg 29 g4 0 ([].length),iZ f.F]]) O<|OW.one<|VWL.vwc<|vZ<|vl' (VW.slen lzZ)<|vZ<|vn)<|canon (aP<|fZ<|fn)<|sc O<|sc O<|sc O<|sn) (λy _ h=>?_))))))
 obtain⟨⟨x,x1⟩,g5⟩:=y
 refine aj<|ac<|bj O O<|nZ<|qZ<|cZ h O (λhb h=>?_) (λhb h=>?_)
 ·refine kZ<|qZ<|bZ<|aj<|tkZ h (λhg h=>ac<|aQ d5 cU dZ (λ_=>O) O O hg<|ac<|cn cU dZ rP O O (v:=bb (at' f.V x)) O<|wZ rg<|aW fx k_ (kk:=3) O (λg6=>ac<|ay (aZ 5 O) cU dZ O (w:=bb (at' f.V x)) O O O (v:=bb (at' f.V x)) O aV<|nZ ?_))
  obtain⟨r,hc,h⟩:=h
  refine tkZ h (λhg1 h=>Vc.drawn' bA rg (fH [(8,pc (bt r))]) krZ<|dP O O<|aF b6 O<|dL (E:=([(rg,3)],[])) O O zSm (cfn) (af (aZ 3 O) eJ fv O O (v:=.sl 3 rg 29 g5 0 x1.length) O<|dP O O<|aF ft O<|dL (E:=([(rg,5)],[])) O O zSm (cfa zAp<|cfn) (af (aZ 5 O) sz3 ag3 O O (v:=iZ ((at' f.V x).D)) O (dP O O<|aF dW O<|dL (E:=([(rg,5)],[])) O O zSm (cfa zAp<|cfa zAp<|cfn) (af (aZ 5 O) sz3 ag3 O O (v:=iZ ((at' f.V x).K)) O (dP O O<|aF eB O<|dL (E:=([(rg,5)],[])) O O zSm (cfa zAp<|cfa zAp<|cfa zAp<|cfn) (af (aZ 5 O) fo jc O O (v:=bt ((at' f.V x).M)) O (dC (vs:=[bt ((at' f.V x).M)]) O (vZ<|vn) (λ_=>lR hc (λ_ hr=>⟨by rw[hr],rfl⟩)) O<|dP O O<|bG sQ fx vY um cU (ps:=[(0,iZ ((at' f.V x).D)),(1,iZ ((at' f.V x).K)),(2,bt r)]) O O (v:=.agg [iZ ((at' f.V x).D),iZ ((at' f.V x).K),bt r]) O (dL (E:=([],[(rg,28)])) O O zSm (cfo krZ<|cfo krZ<|cfo krZ<|cfa zAp<|cfn) (bq d5 k_ fx (es:=[.agg [iZ ((at' f.V x).D),iZ ((at' f.V x).K),bt r]]) O (kk:=3) O O O O O O (λg7=>?_)))))))))))
  exact dL (E:=([(rg,28)],[(rg,29)])) O O zSm (cfo krZ<|cfo krZ<|cfo krZ<|cfo krZ<|cfo krZ<|cfn) (cS d5 AC k_ fx (es:=x1) (xs:=[(⟨(at' f.V x).D,(at' f.V x).K,r⟩:GNode)]) (enc:=bb) (aZ 29 O) lzZ (bQ (aZ 28 O) lzZ) (kk:=3) O O (λ_=>O) (λ_=>O) hg1 O (λ_=>aV) (λg8=>dP O O<|aF b6 O<|dL (E:=([],[(rg,3)])) O O zSm (cfo krZ<|cfo krZ<|cfo krZ<|cfo krZ<|cfo krZ<|cfo krZ<|cfn) (ay (aZ 3 O) eJ dZ O (w:=.sl 3 rg 29 g8 0 ((x1++[(⟨(at' f.V x).D,(at' f.V x).K,r⟩:GNode)]).length)) O O O (v:=.agg [iZ f.A,.sl 3 rg 29 g8 0 ((x1++[(⟨(at' f.V x).D,(at' f.V x).K,r⟩:GNode)]).length),iZ f.F]) O aV (dN<|rZ<|tkZ h (λhg2 h=>ac<|aG O O hg2<|mvZ (iZ<|x+1) O<|nZ<|⟨(((x+1),(x1++[(⟨(at' f.V x).D,(at' f.V x).K,r⟩:GNode)])),g8),(canon (aP<|fZ<|fn)<|sc O<|sc O<|sc O<|sn),h⟩)))))
 exact xsZ<|aj<|ac<|aw (aZ 3 O) ct dZ fE O O (v:=.agg [iZ f.A,.sl 3 rg 29 g5 0 x1.length,iZ f.F]) O<|ac<|ay (aZ 2 O) ct dZ O (w:=.agg [iZ f.A,.sl 3 rg 29 g5 0 x1.length,iZ f.F]) O O O (v:=.agg [iZ f.A,.sl 3 rg 29 g5 0 x1.length,iZ f.F]) O aV<|aE<|bc (aZ 2 O) ct dZ fE O O (v:=.agg [iZ f.A,.sl 3 rg 29 g5 0 x1.length,iZ f.F]) O<|aK<|br (k:=29) (xs:=List.map bb x1) O (v':=.agg [iZ f.A,eL bb x1,iZ f.F]) (VW.aggL<|vZ<|vl' (bk O)<|vZ<|vn)<|goZ hrg<|hQ _ h
theorem tQ {x:GRat} {Q:GRat->Prop} (h:na x Q) (hQ:∀r1,Q r1->R (am r1) S) :
  Ctr prog 106 [am x] S R:=by
 refine aI func106 rfl ntmps106 results106 krZ (λrg hrg=>?_)
 refine aj<|wZ rg<|bC (v:=am x) O O (kk:=3) O dZ (λg1=>wZ rg<|aW bF dh (kk:=3) O (λg2=>nZ<|qZ ?_))
 obtain⟨r,hc,h⟩:=h
 obtain⟨r1,hc1,h⟩:=h
 exact Vc.drawn' bA rg (fH [(4,pc (ak r)),(7,pc (ak r1))]) krZ<|dP O O<|aF oZ O<|dL (E:=([(rg,1)],[])) O O zSm (cfn) (af (aZ 1 O) sz4 ag4 O O (v:=.bool x.Y) O<|dP O O<|aF iC O<|dL (E:=([(rg,1)],[])) O O zSm (cfa zAp<|cfn) (af (aZ 1 O) iE jd O O (v:=ak x.J) O<|dC (vs:=[ak x.J]) O (vZ<|vn) (λ_=>fp hc (λ_ hr=>⟨by rw[hr],rfl⟩)) O<|dP O O<|aF jz O<|dL (E:=([(rg,1)],[])) O O zSm (cfa zAp<|cfa zAp<|cfn) (af (aZ 1 O) iE jd O O (v:=ak x.L) O<|dC (vs:=[ak x.L]) O (vZ<|vn) (λ_=>fp hc1 (λ_ hr=>⟨by rw[hr],rfl⟩)) O<|dP O O<|bG nK bF li kX aS (ps:=[(0,.bool x.Y),(1,ak r),(2,ak r1)]) O O (v:=.agg [.bool x.Y,ak r,ak r1]) O (dL (E:=([],[(rg,2)])) O O zSm (cfo krZ<|cfo krZ<|cfo krZ<|cfn) (ay (aZ 2 O) aS dZ O (w:=.agg [.bool x.Y,ak r,ak r1]) O O O (v:=.agg [.bool x.Y,ak r,ak r1]) O aV<|dN<|uZ<|bc (aZ 2 O) aS dZ bz O O (v:=.agg [.bool x.Y,ak r,ak r1]) O<|aK<|goZ hrg<|hQ _ h)))))
theorem oV {m:GMission} {j:Int} (q k0 k1:Nat) {Q:List GFormula->List (List GRat)->Prop} {S:St} {R:AV->St->Prop} (h:gd m j Q) (hQ:∀r1 r2 rf gs g0 g1,rf≠q->(∀k,S rf k=none)->Q r1 r2->R (.tuple [.agg [.sl 3 q k0 g0 0 r1.length,.sl 1 q k1 g1 0 r2.length],.niface]) (stX (dx S rf 3 am gs r2) [(q,k0,.arr 3 (List.map an r1),g0),(q,k1,.arr 1 (fr rf 3 gs r2),g1)])) :
  Ctr prog 45 [aB m,iZ j] S R:=by
 unfold gd at h
 refine aI func45 rfl ntmps45 results45 krZ (λrg hrg=>?_)
 refine aj<|wZ rg<|bC (v:=aB m) O O (kk:=2) O dZ (λg1=>wZ rg<|aW lN zd (kk:=2) O (λg2=>asZ .niface O<|nZ<|qZ<|aj<|ac<|aw (aZ 2 O) dA dZ gA O O (v:=aB m) O<|mvZ (iZ j) O<|ac<|clZ O<|mH h λerr h=>asZ (aY 82 err) O<|aU<|mvZ (aY 82 err) O<|ac<|cK gk (E:=82) O O O<|nZ<|cZ h O (λhb h=>?_) (λhb h=>?_)))
 ·exact aj<|ac<|bG xC lN vW uj dA (ps:=[]) O O (v:=.agg [.nil,.nil]) O<|mvZ (aY 82 err) O<|ac<|ay (aZ 4 O) dA dZ O (w:=.agg [.nil,.nil]) O O O (v:=.agg [.nil,.nil]) O aV<|asZ (aY 82 err) O<|nZ<|uZ h.elim
 refine kZ<|aj<|wZ rg<|aW lN zd (kk:=2) O (λg3=>nZ<|qZ<|aj<|ac<|aF ca O<|ac<|af (aZ 2 O) eZ fD O O (v:=eL an m.N) O<|mvZ (iZ j) O<|tkZ h (λhg h=>ac<|aG O O hg<|tkZ h (λhg1 h=>ac<|fO eI ct dZ (λ_=>O) O (l:=0) (h:=(j+1)) O O hg1<|ac<|aJ eI O<|mvZ (iZ 0) O<|nZ<|bZ<|Vc.matB 7 0 37 3 (b:=λg4=>.agg [.sl 3 rg 37 g4 0 0,.nil]) O O dZ dZ O (λg4=>lgZ h g4 (λy=>ba [(1,iZ j),(2,.ptr rg 2 g1 0 0),(4,.ptr rg 4 g2 0 0),(7,.ptr rg 7 g3 0 0),(26,eL an (bf m.N 0<|j+1)),(27,iZ ((bf m.N 0<|j+1).length:Int)),(28,iZ y.1.1)]) (λy=>stL S rg [(2,.arr 2 [aB m],g1),(4,.arr 2 [.agg [.nil,.nil]],g2),(7,.arr 2 [.agg [.sl 3 rg 37 y.2 0 y.1.2.length,.nil]],g3),(37,.arr 3 (List.map an y.1.2),y.2)]) (EWk.trans (EWk.ow (k:=7) (o':=.arr 2 [.agg [.sl 3 rg 37 g4 0 ([].length),.nil]]) O<|OW.one<|VWL.vwc<|vl' (VW.slen lzZ)<|vZ<|vn)<|canon (aP<|fZ<|fZ<|fZ<|fn)<|cC O O O O<|sn) (λy _ h=>?_)))))
 obtain⟨⟨x,x1⟩,g5⟩:=y
 refine aj<|ac<|bj O O<|nZ<|qZ<|cZ h O (λhb1 h=>?_) (λhb1 h=>?_)
 ·refine kZ<|qZ<|bZ<|aj<|tkZ h (λhg2 h=>ac<|aQ eI ct dZ (λ_=>O) O O hg2<|ac<|cn ct dZ fE O O (v:=an (at' (bf m.N 0<|j+1) x)) O (wZ rg<|aW fG nT (kk:=3) O (λg6=>ac<|ay (aZ 9 O) ct dZ O (w:=an (at' (bf m.N 0<|j+1) x)) O O O (v:=an (at' (bf m.N 0<|j+1) x)) O aV (nZ ?_))))
  obtain⟨r,hc,h⟩:=h
  exact tkZ h (λhg3 h=>Vc.drawn' bA rg (fH [(3,pc (an r))]) krZ<|dP O O<|aF ca O<|dL (E:=([(rg,7)],[])) O O zSm (cfn) (af (aZ 7 O) eZ fD O O (v:=.sl 3 rg 37 g5 0 x1.length) O<|dL (E:=([(rg,9)],[])) O O zSm (cfa zAp<|cfn) (aw (aZ 9 O) ct dZ fE O O (v:=an (at' (bf m.N 0<|j+1) x)) O (dC (vs:=[an (at' (bf m.N 0<|j+1) x)]) O (vZ<|vn) (λ_=>ma hc (λ_ hr=>⟨by rw[hr],rfl⟩)) O<|dL (E:=([],[(rg,36)])) O O zSm (cfo krZ<|cfa zAp<|cfn) (bq eI nT fG (es:=[an r]) O (kk:=3) O O O O O O (λg7=>dL (E:=([(rg,36)],[(rg,37)])) O O zSm (cfo krZ<|cfo krZ<|cfo krZ<|cfn) (cS eI D_ nT fG (es:=x1) (xs:=[r]) (enc:=an) (aZ 37 O) lzZ (bQ (aZ 36 O) lzZ) (kk:=3) O O (λ_=>O) (λ_=>O) hg3 O (λ_=>aV) (λg8=>dP O O<|aF ca O<|dL (E:=([],[(rg,7)])) O O zSm (cfo krZ<|cfo krZ<|cfo krZ<|cfo krZ<|cfn) (ay (aZ 7 O) eZ dZ O (w:=.sl 3 rg 37 g8 0 ((x1++[r]).length)) O O O (v:=.agg [.sl 3 rg 37 g8 0 ((x1++[r]).length),.nil]) O aV (dN<|rZ<|tkZ h (λhg4 h=>ac<|aG O O hg4<|mvZ (iZ<|x+1) O<|nZ<|⟨(((x+1),(x1++[r])),g8),(canon (aP<|fZ<|fZ<|fZ<|fn)<|cC O O O O<|sn),h⟩)))))))))))
 refine xsZ<|qZ<|aj<|ac<|aF cD O<|ac<|af (aZ 2 O) gn h_ O O (v:=eL (eL am) m.P) O<|ac<|aJ fC O<|mvZ (iZ 0) O<|nZ<|bZ<|Vc.matB 7 1 66 1 (b:=λg9=>.agg [.sl 3 rg 37 g5 0 x1.length,.sl 1 rg 66 g9 0 0]) O O dZ dZ O (λg9=>Vc.famNw 3 am q dZ (λrfo gs hrfo qrfo nrfo=>lgZ h (g9,gs) (λy=>ba [(1,iZ j),(4,.ptr rg 4 g2 0 0),(7,.ptr rg 7 g3 0 0),(41,eL (eL am) m.P),(42,iZ (m.P.length:Int)),(43,iZ y.1.1)]) (λy=>stL (dx S rfo 3 am y.2.2 y.1.2) rg [(4,.arr 2 [.agg [.nil,.nil]],g2),(7,.arr 2 [.agg [.sl 3 rg 37 g5 0 x1.length,.sl 1 rg 66 y.2.1 0 y.1.2.length]],g3),(37,.arr 3 (List.map an x1),g5),(66,.arr 1 (fr rfo 3 y.2.2 y.1.2),y.2.1)]) (EWk.trans (EWk.ow (k:=7) (o':=.arr 2 [.agg [.sl 3 rg 37 g5 0 x1.length,.sl 1 rg 66 g9 0 (([]:List<|List GRat).length)]]) O (OW.one<|VWL.vwc<|vZ<|vl' (VW.slen lzZ)<|vn)) (canon (aP<|fZ<|fZ<|fn)<|cC O O O O<|sn)) (λy _ h=>?_)))
 obtain⟨⟨x2,x3⟩,⟨g10,g11⟩⟩:=y
 refine aj<|ac<|bj O O<|nZ<|qZ<|cZ h O (λhb2 h=>?_) (λhb2 h=>?_)
 ·refine kZ<|qZ<|bZ<|aj<|tkZ h (λhg5 h=>ac<|aQ fC gp dZ (λ_=>O) O O hg5<|ac<|aL gp oB O O (v:=eL am (at' m.P x2)) O<|asZ (eL am<|at' m.P x2) O<|aU<|asZ .nil O<|nZ<|qZ<|aj<|mvZ (eL am<|at' m.P x2) O<|mvZ (iZ j) O<|tkZ h (λhg6 h=>ac<|aG O O hg6<|tkZ h (λhg7 h=>ac<|fO dM aS dZ (λ_=>O) O (l:=0) (h:=(j+1)) O O hg7<|ac<|aJ dM O<|mvZ (iZ 0) O<|nZ<|bZ<|Vc.mat 12 60 3 O dZ (λg12=>lgZ h g12 (λy=>ba [(1,iZ j),(4,.ptr rg 4 g2 0 0),(7,.ptr rg 7 g3 0 0),(12,.sl 3 rg 60 y.2 0 y.1.2.length),(41,eL (eL am) m.P),(42,iZ (m.P.length:Int)),(43,iZ x2),(50,eL am (bf (at' m.P x2) 0<|j+1)),(51,iZ ((bf (at' m.P x2) 0<|j+1).length:Int)),(52,iZ y.1.1)]) (λy=>stL (dx S rfo 3 am g11 x3) rg [(4,.arr 2 [.agg [.nil,.nil]],g2),(7,.arr 2 [.agg [.sl 3 rg 37 g5 0 x1.length,.sl 1 rg 66 g10 0 x3.length]],g3),(37,.arr 3 (List.map an x1),g5),(60,.arr 3 (List.map am y.1.2),y.2),(66,.arr 1 (fr rfo 3 g11 x3),g10)]) (canon (fZ<|fZ<|fZ<|fc (VW.slen lzZ)<|aP<|fZ<|fZ<|fn)<|cC O O O O<|sc O<|sn) (λy _ h=>?_)))))
  obtain⟨⟨x4,row⟩,g13⟩:=y
  refine aj<|ac<|bj O O<|nZ<|qZ<|cZ h O (λhb3 h=>?_) (λhb3 h=>?_)
  ·exact kZ<|qZ<|bZ<|aj<|tkZ h (λhg8 h=>ac<|aQ dM aS dZ (λ_=>O) O O hg8<|ac<|cn aS dZ bz O O (v:=am (at' (bf (at' m.P x2) 0<|j+1) x4)) O (wZ rg<|aW bF dh (kk:=3) O (λg14=>ac<|ay (aZ 14 O) aS dZ O (w:=am (at' (bf (at' m.P x2) 0<|j+1) x4)) O O O (v:=am (at' (bf (at' m.P x2) 0<|j+1) x4)) O aV (nZ<|rZ<|mvZ (.sl 3 rg 60 g13 0 row.length) O<|ac<|aw (aZ 14 O) aS dZ bz O O (v:=am (at' (bf (at' m.P x2) 0<|j+1) x4)) O (ac<|clZ O<|tQ h λr1 h=>wZ rg<|bq dM dh bF (es:=[am r1]) O (kk:=3) O O O O O O (λg15=>tkZ h (λhg9 h=>wZ rg<|cS dM tg dh bF (es:=row) (xs:=[r1]) (enc:=am) (aZ 60 O) lzZ (bQ (aZ 59 O) lzZ) (kk:=3) O O (λ_=>O) (λ_=>O) hg9 O (λ_=>aV) (λg16=>asZ (.sl 3 rg 60 g16 0<|(row++[r1]).length) O<|nZ<|rZ<|tkZ h (λhg10 h=>ac<|aG O O hg10<|mvZ (iZ<|x4+1) O<|nZ<|⟨(((x4+1),(row++[r1])),g16),(canon (aP<|aP<|fZ<|fZ<|fn)<|cC O O O O<|sc O<|sn),h⟩)))))))))
  refine xsZ<|rZ<|ac<|aF cD O<|ac<|af (aZ 7 O) gn h_ O O (v:=.sl 1 rg 66 g10 0 x3.length) O<|mvZ (.sl 3 rg 60 g13 0 row.length) O<|fw (canon (es:=[(1,iZ j),(4,.ptr rg 4 g2 0 0),(7,.ptr rg 7 g3 0 0),(41,eL (eL am) m.P),(42,iZ (m.P.length:Int)),(43,iZ x2),(63,.sl 1 rg 66 g10 0 x3.length),(64,.sl 3 rg 60 g13 0 row.length)]) (m:=[(60,.arr 3 (List.map am row),g13),(4,.arr 2 [.agg [.nil,.nil]],g2),(7,.arr 2 [.agg [.sl 3 rg 37 g5 0 x1.length,.sl 1 rg 66 g10 0 x3.length]],g3),(37,.arr 3 (List.map an x1),g5),(66,.arr 1 (fr rfo 3 g11 x3),g10)]) (aP<|aP<|fn) (cC O O O O<|sc O<|sn)) (Wl.famMv 60 hrfo O (λg18=>[(1,iZ j),(4,.ptr rg 4 g2 0 0),(7,.ptr rg 7 g3 0 0),(41,eL (eL am) m.P),(42,iZ (m.P.length:Int)),(43,iZ x2),(63,.sl 1 rg 66 g10 0 x3.length),(64,.sl 3 rfo x3.length g18 0 row.length)]) [(4,.arr 2 [.agg [.nil,.nil]],g2),(7,.arr 2 [.agg [.sl 3 rg 37 g5 0 x1.length,.sl 1 rg 66 g10 0 x3.length]],g3),(37,.arr 3 (List.map an x1),g5),(66,.arr 1 (fr rfo 3 g11 x3),g10)] O (λ_=>⟨xK,xK,xK,xK,xK,xK,xK,De 0 rfl,trivial⟩) (λg18=>wZ rg<|bq fC Dt yu (es:=[.sl 3 rfo x3.length g18 0 row.length]) O (kk:=1) O O O O O O (λg19=>tkZ h (λhg11 h=>wZ rg<|EY (l:=row) (T:=x3) fC F0 Dt yu O lzZ (yx (aZ 65 O) O) O O hg11 O (λg20=>?_)))))
  exact ac<|aF cD O<|ac<|ay (aZ 7 O) gn dZ O (w:=.sl 1 rg 66 g20 0 ((x3++[row]).length)) O O O (v:=.agg [.sl 3 rg 37 g5 0 x1.length,.sl 1 rg 66 g20 0 ((x3++[row]).length)]) O aV (nZ<|rZ<|tkZ h (λhg12 h=>ac<|aG O O hg12<|mvZ (iZ<|x2+1) O<|nZ<|⟨(((x2+1),(x3++[row])),(g20,(kh g11 x3.length g18))),(canon (aP<|fZ<|fZ<|fn)<|cC O O O O<|sn),h⟩))
 exact xsZ<|aj<|ac<|aw (aZ 7 O) dA dZ gA O O (v:=.agg [.sl 3 rg 37 g5 0 x1.length,.sl 1 rg 66 g10 0 x3.length]) O<|ac<|ay (aZ 4 O) dA dZ O (w:=.agg [.sl 3 rg 37 g5 0 x1.length,.sl 1 rg 66 g10 0 x3.length]) O O O (v:=.agg [.sl 3 rg 37 g5 0 x1.length,.sl 1 rg 66 g10 0 x3.length]) O aV<|asZ .niface O<|aE<|bc (aZ 4 O) dA dZ gA O O (v:=.agg [.sl 3 rg 37 g5 0 x1.length,.sl 1 rg 66 g10 0 x3.length]) O<|aC (v:=.niface) O<|aK<|vz q (DU hrfo hrg) [(37,g5,.arr 3 (List.map an x1),k0),(66,g10,.arr 1 (fr rfo 3 g11 x3),k1)] ⟨rfl,rfl,rfl,rfl,trivial⟩ (λγ=>.tuple [.agg [.sl 3 q k0 (γ 0) 0 x1.length,.sl 1 q k1 (γ 1) 0 x3.length],.niface]) (λγ=>[(q,k0,.arr 3 (List.map an x1),γ 0),(q,k1,.arr 1 (fr rfo 3 g11 x3),γ 1)]) (λγ=>Ab Ac<|Ab Ac HB) (λγ=>Gy<|xL (Gz<|xL (De 0 O)<|xL (De 1 O) GA)<|xL xK GA) (λγ=>hQ _ _ _ _ (γ 0) (γ 1) qrfo nrfo h)
end Go.Proofs.YtnjgdkfhgmebjaaGreat
namespace Go.Proofs.YtnjgdkfhgmebjaaGreat
open Go.Gg Tryz
set_option maxRecDepth 100000
variable {S:St} {R:AV->St->Prop}
def GX:Go.Shelf.Ren:=⟨λn=>if n == 22 then 119 else if n == 29 then 193 else if n == 30 then 194 else n,λn=>if n == 0 then 0 else if n == 3 then 3 else if n == 4 then 4 else if n == 9 then 24 else if n == 24 then 49 else n,λn=>n⟩
theorem GZ:InsL prog GX 24 3 40 (.agg #[.int .i64 0,.slice none 0 0,.int .i64 0]) f119.name f193.name where
 bA:=by kernel_rfl
 f22:=func119.trans (congrArg some kR)
 f29:=func193.trans (congrArg some kR)
 n29:=by kernel_rfl
 o29:=by kernel_rfl
 x29:=by kernel_rfl
 t0:=underlying0
 a0:=isAgg0
 z0:=sizeOf0
 v0:=zeroValue0
 t3:=underlying3
 a3:=isAgg3
 z3:=sizeOf3
 v3:=zeroValue3
 t4:=underlying4
 a4:=isAgg4
 z4:=sizeOf4
 v4:=zeroValue4
 t24:=underlying49
 a24:=isAgg49
 z24:=sizeOf49
 v24:=zeroValue49
 z9:=sizeOf24
 i9:=by kernel_rfl
 k0:=by decide
 zc:=by kernel_rfl
def GW:Go.Shelf.Ren:=⟨λn=>if n == 22 then 123 else if n == 29 then 197 else if n == 30 then 198 else n,λn=>if n == 0 then 0 else if n == 3 then 3 else if n == 4 then 4 else if n == 9 then 60 else if n == 24 then 25 else n,λn=>n⟩
theorem GY:InsL prog GW 60 3 56 (.agg #[.bool false,.slice none 0 0,.slice none 0 0]) f123.name f197.name where
 bA:=by kernel_rfl
 f22:=func123.trans (congrArg some kR)
 f29:=func197.trans (congrArg some kR)
 n29:=by kernel_rfl
 o29:=by kernel_rfl
 x29:=by kernel_rfl
 t0:=underlying0
 a0:=isAgg0
 z0:=sizeOf0
 v0:=zeroValue0
 t3:=underlying3
 a3:=isAgg3
 z3:=sizeOf3
 v3:=zeroValue3
 t4:=underlying4
 a4:=isAgg4
 z4:=sizeOf4
 v4:=zeroValue4
 t24:=underlying25
 a24:=isAgg25
 z24:=sizeOf25
 v24:=zeroValue25
 z9:=sizeOf60
 i9:=by kernel_rfl
 k0:=by decide
 zc:=by kernel_rfl
end Go.Proofs.YtnjgdkfhgmebjaaGreat
