/- Walks of functions. Conditions: none. -/
import Derived.Test.YtcmagbhiioheeaaGreatDoorWa
import Derived.Test.YtcmagbhiioheeaaGreatDoorGgTy
import Derived.Test.YtcmagbhiioheeaaGreatDoorGj
import Derived.Test.YtcmagbhiioheeaaGreatDoorGd
import Derived.Test.YtcmagbhiioheeaaGreatDoorK1
import Derived.Test.YtcmagbhiioheeaaGreatDoorK2
namespace Go.Proofs.YtcmagbhiioheeaaGreatDoor
open Go.Gg Tryz
set_option maxRecDepth 100000
set_option maxHeartbeats 2000000
variable {S:St} {R:AV->St->Prop}
theorem pB {refs:List Int} {k6:Int} {order:List Int} {place:List Int} {nodes:List GDNode} {unique:GMap Int} {memo:GMap Int} {q0 k0 g0 q1 k1 g1 q2 k2 g2 q3 k3 g3 q4 k4 g4 q5 k5 g5:Nat} (hdk:DK [(q0,k0),(q3,k3),(q4,k4),(q5,k5),(q1,k1),(q2,k2)]) {Q:List GDNode->GMap Int->GMap Int->Int->Prop} (h:iH refs k6 order place nodes unique memo Q) (hQ:∀r1 r2 r3 r4,∀h3,Q r1 r2 r3 r4->R (iZ r4) (stX S [(q0,k0,.arr 5 [.agg [.sl 1 q1 k1 g1 0 order.length,.sl 1 q2 k2 g2 0 place.length,.sl 3 q3 k3 h3 0 r1.length,.map q4 k4 g4,.map q5 k5 g5]],g0),(q3,k3,.arr 3 (List.map aG r1),h3),(q4,k4,aC iZ zKt r2,g4),(q5,k5,aC iZ zKt r3,g5),(q1,k1,.arr 1 (List.map iZ order),g1),(q2,k2,.arr 1 (List.map iZ place),g2)])) :
  Ctr prog 119 [.ptr q0 k0 g0 0 0,cp refs,iZ k6] (stX S [(q0,k0,.arr 5 [.agg [.sl 1 q1 k1 g1 0 order.length,.sl 1 q2 k2 g2 0 place.length,.sl 3 q3 k3 g3 0 nodes.length,.map q4 k4 g4,.map q5 k5 g5]],g0),(q3,k3,.arr 3 (List.map aG nodes),g3),(q4,k4,aC iZ zKt unique,g4),(q5,k5,aC iZ zKt memo,g5),(q1,k1,.arr 1 (List.map iZ order),g1),(q2,k2,.arr 1 (List.map iZ place),g2)]) R:=by
 refine au func119 rfl ntmps119 results119 krZ (λrg hrg=>?_)
 have hdx:DX [(q0,k0,.arr 5 [.agg [.sl 1 q1 k1 g1 0 order.length,.sl 1 q2 k2 g2 0 place.length,.sl 3 q3 k3 g3 0 nodes.length,.map q4 k4 g4,.map q5 k5 g5]],g0),(q3,k3,.arr 3 (List.map aG nodes),g3),(q4,k4,aC iZ zKt unique,g4),(q5,k5,aC iZ zKt memo,g5),(q1,k1,.arr 1 (List.map iZ order),g1),(q2,k2,.arr 1 (List.map iZ place),g2)]:=hdk
 have hfr:=λX' e=>bF (S:=S) (rg:=rg) (X:=[(q0,k0,.arr 5 [.agg [.sl 1 q1 k1 g1 0 order.length,.sl 1 q2 k2 g2 0 place.length,.sl 3 q3 k3 g3 0 nodes.length,.map q4 k4 g4,.map q5 k5 g5]],g0),(q3,k3,.arr 3 (List.map aG nodes),g3),(q4,k4,aC iZ zKt unique,g4),(q5,k5,aC iZ zKt memo,g5),(q1,k1,.arr 1 (List.map iZ order),g1),(q2,k2,.arr 1 (List.map iZ place),g2)]) (X':=X') e hrg
 have hne0:=ak hdx hrg 0 rfl
 have hne3:=ak hdx hrg 1 rfl
 have hne4:=ak hdx hrg 2 rfl
 have hne5:=ak hdx hrg 3 rfl
 have hne1:=ak hdx hrg 4 rfl
 have hne2:=ak hdx hrg 5 rfl
 refine wk 8 λh hg h=>?_
 refine tkZ h (λhg1 h=>wZ rg<|fg ge oS ok3 (enc:=iZ) (z':=0) gC (kk:=1) O O O hg1 (λg6=>?_))
 refine wk 16 λh hi h=>?_
 refine lgZ h g3 (λy=>aw [(0,.ptr q0 k0 g0 0 0),(2,iZ k6),(7,.sl 1 rg 13 g6 0 y.1.2.1.length),(16,cp refs),(17,iZ (refs.length:Int)),(18,iZ y.1.1)]) (λy=>stL (stX S [(q0,k0,.arr 5 [.agg [.sl 1 q1 k1 g1 0 order.length,.sl 1 q2 k2 g2 0 place.length,.sl 3 q3 k3 y.2 0 y.1.2.2.1.length,.map q4 k4 g4,.map q5 k5 g5]],g0),(q3,k3,.arr 3 (List.map aG y.1.2.2.1),y.2),(q4,k4,aC iZ zKt y.1.2.2.2.1,g4),(q5,k5,aC iZ zKt y.1.2.2.2.2,g5),(q1,k1,.arr 1 (List.map iZ order),g1),(q2,k2,.arr 1 (List.map iZ place),g2)]) rg [(13,.arr 1 (List.map iZ y.1.2.1),g6)]) (canon (fZ<|fZ<|fc (VW.slen lzZ)<|fZ<|fZ<|fZ<|fn)<|sc O<|sn) (λy _ h=>?_)
 obtain⟨⟨x,need,x1,x2,x3⟩,g7⟩:=y
 refine wk 5 λh=>?_
 refine cZ h O (λhb h=>?_) (λhb h=>?_)
 ·refine wk 15 λh hg2 h=>?_
  refine lgZ h g7 (λy=>aw [(0,.ptr q0 k0 g0 0 0),(2,iZ k6),(7,.sl 1 rg 13 g6 0 y.1.2.1.length),(9,iZ (at' refs x)),(10,iZ y.1.1),(16,cp refs),(17,iZ (refs.length:Int)),(18,iZ x)]) (λy=>stL (stX S [(q0,k0,.arr 5 [.agg [.sl 1 q1 k1 g1 0 order.length,.sl 1 q2 k2 g2 0 place.length,.sl 3 q3 k3 y.2 0 y.1.2.2.1.length,.map q4 k4 g4,.map q5 k5 g5]],g0),(q3,k3,.arr 3 (List.map aG y.1.2.2.1),y.2),(q4,k4,aC iZ zKt y.1.2.2.2.1,g4),(q5,k5,aC iZ zKt y.1.2.2.2.2,g5),(q1,k1,.arr 1 (List.map iZ order),g1),(q2,k2,.arr 1 (List.map iZ place),g2)]) rg [(13,.arr 1 (List.map iZ y.1.2.1),g6)]) eCa (λy _ h=>?_)
  obtain⟨⟨j,need1,x4,x5,x6⟩,g8⟩:=y
  refine wk 6 λh=>?_
  refine cZ h O (λhb1 h=>?_) (λhb1 h=>?_)
  ·refine kZ<|qZ<|bZ<|tkZ h (λhg3 h=>tkZ h (λhi1 h=>tkZ h (λhi2 h=>?_)))
   obtain⟨u,u1,u2,r,hc,h⟩:=h
   obtain⟨_,hc⟩:=hc
   refine tkZ h (λhi3 h=>Vc.drawn' mixed rg (gd [(13,wc (λ_=>iZ r) [(q1,k1),(q2,k2)] [(q0,k0),(q3,k3),(q4,k4),(q5,k5)] (λgm=>[(q0,k0,.arr 5 [.agg [.sl 1 q1 k1 g1 0 order.length,.sl 1 q2 k2 g2 0 place.length,.sl 3 q3 k3 (gm 0) 0 u.length,.map q4 k4 g4,.map q5 k5 g5]],g0),(q3,k3,.arr 3 (List.map aG u),(gm 0)),(q4,k4,aC iZ zKt u1,g4),(q5,k5,aC iZ zKt u2,g5)]))]) krZ ?_)
   refine wk 6 λh=>?_
   refine dP O O<|jY O O hg3<|dP O O<|aS ge sz3 dZ O O hi1 ?_
   refine wk 3 λh=>?_
   refine dP O O<|aS ge sz3 dZ O O hi2 ?_
   refine wk 1 λh=>?_
   refine dCE (vs:=[.ptr q0 k0 g0 0 0,iZ (at' refs x),iZ (at' need1<|j-1),iZ (at' need1 j)]) (V:=λ_=>iZ r) (rd:=[(q1,k1),(q2,k2)]) (wk:=[(q0,k0),(q3,k3),(q4,k4),(q5,k5)]) (wr:=λgm=>[(q0,k0,.arr 5 [.agg [.sl 1 q1 k1 g1 0 order.length,.sl 1 q2 k2 g2 0 place.length,.sl 3 q3 k3 (gm 0) 0 u.length,.map q4 k4 g4,.map q5 k5 g5]],g0),(q3,k3,.arr 3 (List.map aG u),(gm 0)),(q4,k4,aC iZ zKt u1,g4),(q5,k5,aC iZ zKt u2,g5)]) rfl (vZ<|vZ<|vZ<|vZ<|vn) rfl eCf zSm (λ_=>rfl) (λS' hA hB=>fj (ah (ag hB 0 rfl<|atX hne0 hdx 0 rfl)<|ah (ag hB 1 rfl<|atX hne3 hdx 1 rfl)<|ah (ag hB 2 rfl<|atX hne4 hdx 2 rfl)<|ah (ag hB 3 rfl<|atX hne5 hdx 3 rfl)<|ah (ag hA 0 rfl<|atX hne1 hdx 4 rfl)<|ah (ag hA 1 rfl<|atX hne2 hdx 5 rfl)<|bI)<|bN (dkS [0,1,2,3,4,5] hdk O O) hc (λ_ _ _ _ h3 he=>by obtain⟨rfl,rfl,rfl,rfl⟩:=he;exact⟨λi=>[h3].getD i 0,rfl,uk (uk<|uk<|uk<|ah (ag hA 0 rfl<|atX hne1 hdx 4 rfl)<|ah (ag hA 1 rfl<|atX hne2 hdx 5 rfl)<|bI)⟩)) (λgm=>nc (ur (ur (ur (ur (AB)<|bp hne5 hdx 3 O O)<|bp hne4 hdx 2 O O)<|bp hne3 hdx 1 O O)<|bp hne0 hdx 0 O O)<|dP O O<|aS ge sz3 dZ O O hi3 ?_)
   exact wk 9999 trivial
  exact wk 9999 trivial
 refine wk 9 λh hi4 h=>?_
 exact uZ<|gv1 (hfr _ O)<|hQ _ _ _ _ _ h
theorem pD {refs:List Int} {first:Int} {order:List Int} {place:List Int} {nodes:List GDNode} {unique:GMap Int} {memo:GMap Int} {q0 k0 g0 q1 k1 g1 q2 k2 g2 q3 k3 g3 q4 k4 g4 q5 k5 g5:Nat} (hdk:DK [(q0,k0),(q3,k3),(q4,k4),(q5,k5),(q1,k1),(q2,k2)]) {Q:List GDNode->GMap Int->GMap Int->Int->Prop} (h:mb refs first order place nodes unique memo Q) (hQ:∀r1 r2 r3 r4,∀h3,Q r1 r2 r3 r4->R (iZ r4) (stX S [(q0,k0,.arr 5 [.agg [.sl 1 q1 k1 g1 0 order.length,.sl 1 q2 k2 g2 0 place.length,.sl 3 q3 k3 h3 0 r1.length,.map q4 k4 g4,.map q5 k5 g5]],g0),(q3,k3,.arr 3 (List.map aG r1),h3),(q4,k4,aC iZ zKt r2,g4),(q5,k5,aC iZ zKt r3,g5),(q1,k1,.arr 1 (List.map iZ order),g1),(q2,k2,.arr 1 (List.map iZ place),g2)])) :
  Ctr prog 115 [cp refs,iZ first,.fn (.func 116) [.ptr q0 k0 g0 0 0] []] (stX S [(q0,k0,.arr 5 [.agg [.sl 1 q1 k1 g1 0 order.length,.sl 1 q2 k2 g2 0 place.length,.sl 3 q3 k3 g3 0 nodes.length,.map q4 k4 g4,.map q5 k5 g5]],g0),(q3,k3,.arr 3 (List.map aG nodes),g3),(q4,k4,aC iZ zKt unique,g4),(q5,k5,aC iZ zKt memo,g5),(q1,k1,.arr 1 (List.map iZ order),g1),(q2,k2,.arr 1 (List.map iZ place),g2)]) R:=by
 refine au func115 rfl ntmps115 results115 krZ (λrg hrg=>?_)
 have hdx:DX [(q0,k0,.arr 5 [.agg [.sl 1 q1 k1 g1 0 order.length,.sl 1 q2 k2 g2 0 place.length,.sl 3 q3 k3 g3 0 nodes.length,.map q4 k4 g4,.map q5 k5 g5]],g0),(q3,k3,.arr 3 (List.map aG nodes),g3),(q4,k4,aC iZ zKt unique,g4),(q5,k5,aC iZ zKt memo,g5),(q1,k1,.arr 1 (List.map iZ order),g1),(q2,k2,.arr 1 (List.map iZ place),g2)]:=hdk
 have hfr:=λX' e=>bF (S:=S) (rg:=rg) (X:=[(q0,k0,.arr 5 [.agg [.sl 1 q1 k1 g1 0 order.length,.sl 1 q2 k2 g2 0 place.length,.sl 3 q3 k3 g3 0 nodes.length,.map q4 k4 g4,.map q5 k5 g5]],g0),(q3,k3,.arr 3 (List.map aG nodes),g3),(q4,k4,aC iZ zKt unique,g4),(q5,k5,aC iZ zKt memo,g5),(q1,k1,.arr 1 (List.map iZ order),g1),(q2,k2,.arr 1 (List.map iZ place),g2)]) (X':=X') e hrg
 have hne0:=ak hdx hrg 0 rfl
 have hne3:=ak hdx hrg 1 rfl
 have hne4:=ak hdx hrg 2 rfl
 have hne5:=ak hdx hrg 3 rfl
 have hne1:=ak hdx hrg 4 rfl
 have hne2:=ak hdx hrg 5 rfl
 refine wk 12 λh=>?_
 refine lgZ h g3 (λy=>aw [(1,iZ y.1.1),(2,.fn (.func 116) [.ptr q0 k0 g0 0 0] []),(9,cp refs),(10,iZ (refs.length:Int)),(11,iZ y.1.2.1)]) (λy=>stL (stX S [(q0,k0,.arr 5 [.agg [.sl 1 q1 k1 g1 0 order.length,.sl 1 q2 k2 g2 0 place.length,.sl 3 q3 k3 y.2 0 y.1.2.2.1.length,.map q4 k4 g4,.map q5 k5 g5]],g0),(q3,k3,.arr 3 (List.map aG y.1.2.2.1),y.2),(q4,k4,aC iZ zKt y.1.2.2.2.1,g4),(q5,k5,aC iZ zKt y.1.2.2.2.2,g5),(q1,k1,.arr 1 (List.map iZ order),g1),(q2,k2,.arr 1 (List.map iZ place),g2)]) rg []) eCa (λy _ h=>?_)
 obtain⟨⟨first1,x,x1,x2,x3⟩,g6⟩:=y
 refine wk 5 λh=>?_
 refine cZ h O (λhb h=>?_) (λhb h=>?_)
 ·refine wk 13 λh hg h=>?_
  refine am<|clZ O<|fj (ah (atX hne0 hdx 0 O)<|ah (atX hne3 hdx 1 O)<|ah (atX hne4 hdx 2 O)<|ah (atX hne5 hdx 3 O)<|ah (atX hne1 hdx 4 O)<|ah (atX hne2 hdx 5 O)<|bI)<|lI (dkS [0,1,2,3,4,5] hdk O O) h λu u1 u2 first2 g7 h=>bL (bD (bD (bD (bD (ah (atX hne1 hdx 4 O)<|ah (atX hne2 hdx 5 O)<|bI)<|bp hne5 hdx 3 O O)<|bp hne4 hdx 2 O O)<|bp hne3 hdx 1 O O)<|bp hne0 hdx 0 O O) ?_
  exact wk 9999 trivial
 refine wk 6 λh=>?_
 exact uZ<|gv1 (hfr _ O)<|hQ _ _ _ _ _ h
theorem oP {refs:List Int} {first:Int} {order:List Int} {place:List Int} {nodes:List GDNode} {unique:GMap Int} {memo:GMap Int} {q0 k0 g0 q1 k1 g1 q2 k2 g2 q3 k3 g3 q4 k4 g4 q5 k5 g5:Nat} (hdk:DK [(q0,k0),(q3,k3),(q4,k4),(q5,k5),(q1,k1),(q2,k2)]) {Q:List GDNode->GMap Int->GMap Int->Int->Prop} (h:lG refs first order place nodes unique memo Q) (hQ:∀r1 r2 r3 r4,∀h3,Q r1 r2 r3 r4->R (iZ r4) (stX S [(q0,k0,.arr 5 [.agg [.sl 1 q1 k1 g1 0 order.length,.sl 1 q2 k2 g2 0 place.length,.sl 3 q3 k3 h3 0 r1.length,.map q4 k4 g4,.map q5 k5 g5]],g0),(q3,k3,.arr 3 (List.map aG r1),h3),(q4,k4,aC iZ zKt r2,g4),(q5,k5,aC iZ zKt r3,g5),(q1,k1,.arr 1 (List.map iZ order),g1),(q2,k2,.arr 1 (List.map iZ place),g2)])) :
  Ctr prog 115 [cp refs,iZ first,.fn (.func 117) [.ptr q0 k0 g0 0 0] []] (stX S [(q0,k0,.arr 5 [.agg [.sl 1 q1 k1 g1 0 order.length,.sl 1 q2 k2 g2 0 place.length,.sl 3 q3 k3 g3 0 nodes.length,.map q4 k4 g4,.map q5 k5 g5]],g0),(q3,k3,.arr 3 (List.map aG nodes),g3),(q4,k4,aC iZ zKt unique,g4),(q5,k5,aC iZ zKt memo,g5),(q1,k1,.arr 1 (List.map iZ order),g1),(q2,k2,.arr 1 (List.map iZ place),g2)]) R:=by
 refine au func115 rfl ntmps115 results115 krZ (λrg hrg=>?_)
 have hdx:DX [(q0,k0,.arr 5 [.agg [.sl 1 q1 k1 g1 0 order.length,.sl 1 q2 k2 g2 0 place.length,.sl 3 q3 k3 g3 0 nodes.length,.map q4 k4 g4,.map q5 k5 g5]],g0),(q3,k3,.arr 3 (List.map aG nodes),g3),(q4,k4,aC iZ zKt unique,g4),(q5,k5,aC iZ zKt memo,g5),(q1,k1,.arr 1 (List.map iZ order),g1),(q2,k2,.arr 1 (List.map iZ place),g2)]:=hdk
 have hfr:=λX' e=>bF (S:=S) (rg:=rg) (X:=[(q0,k0,.arr 5 [.agg [.sl 1 q1 k1 g1 0 order.length,.sl 1 q2 k2 g2 0 place.length,.sl 3 q3 k3 g3 0 nodes.length,.map q4 k4 g4,.map q5 k5 g5]],g0),(q3,k3,.arr 3 (List.map aG nodes),g3),(q4,k4,aC iZ zKt unique,g4),(q5,k5,aC iZ zKt memo,g5),(q1,k1,.arr 1 (List.map iZ order),g1),(q2,k2,.arr 1 (List.map iZ place),g2)]) (X':=X') e hrg
 have hne0:=ak hdx hrg 0 rfl
 have hne3:=ak hdx hrg 1 rfl
 have hne4:=ak hdx hrg 2 rfl
 have hne5:=ak hdx hrg 3 rfl
 have hne1:=ak hdx hrg 4 rfl
 have hne2:=ak hdx hrg 5 rfl
 refine wk 12 λh=>?_
 refine lgZ h g3 (λy=>aw [(1,iZ y.1.1),(2,.fn (.func 117) [.ptr q0 k0 g0 0 0] []),(9,cp refs),(10,iZ (refs.length:Int)),(11,iZ y.1.2.1)]) (λy=>stL (stX S [(q0,k0,.arr 5 [.agg [.sl 1 q1 k1 g1 0 order.length,.sl 1 q2 k2 g2 0 place.length,.sl 3 q3 k3 y.2 0 y.1.2.2.1.length,.map q4 k4 g4,.map q5 k5 g5]],g0),(q3,k3,.arr 3 (List.map aG y.1.2.2.1),y.2),(q4,k4,aC iZ zKt y.1.2.2.2.1,g4),(q5,k5,aC iZ zKt y.1.2.2.2.2,g5),(q1,k1,.arr 1 (List.map iZ order),g1),(q2,k2,.arr 1 (List.map iZ place),g2)]) rg []) eCa (λy _ h=>?_)
 obtain⟨⟨first1,x,x1,x2,x3⟩,g6⟩:=y
 refine wk 5 λh=>?_
 refine cZ h O (λhb h=>?_) (λhb h=>?_)
 ·refine wk 13 λh hg h=>?_
  refine am<|clZ O<|fj (ah (atX hne0 hdx 0 O)<|ah (atX hne3 hdx 1 O)<|ah (atX hne4 hdx 2 O)<|ah (atX hne5 hdx 3 O)<|ah (atX hne1 hdx 4 O)<|ah (atX hne2 hdx 5 O)<|bI)<|lQ (dkS [0,1,2,3,4,5] hdk O O) h λu u1 u2 first2 g7 h=>bL (bD (bD (bD (bD (ah (atX hne1 hdx 4 O)<|ah (atX hne2 hdx 5 O)<|bI)<|bp hne5 hdx 3 O O)<|bp hne4 hdx 2 O O)<|bp hne3 hdx 1 O O)<|bp hne0 hdx 0 O O) ?_
  exact wk 9999 trivial
 refine wk 6 λh=>?_
 exact uZ<|gv1 (hfr _ O)<|hQ _ _ _ _ _ h
theorem oO {refs:List Int} {first:Int} {order:List Int} {place:List Int} {nodes:List GDNode} {unique:GMap Int} {memo:GMap Int} {q0 k0 g0 q1 k1 g1 q2 k2 g2 q3 k3 g3 q4 k4 g4 q5 k5 g5:Nat} (hdk:DK [(q0,k0),(q3,k3),(q4,k4),(q5,k5),(q1,k1),(q2,k2)]) {Q:List GDNode->GMap Int->GMap Int->Int->Prop} (h:lF refs first order place nodes unique memo Q) (hQ:∀r1 r2 r3 r4,∀h3,Q r1 r2 r3 r4->R (iZ r4) (stX S [(q0,k0,.arr 5 [.agg [.sl 1 q1 k1 g1 0 order.length,.sl 1 q2 k2 g2 0 place.length,.sl 3 q3 k3 h3 0 r1.length,.map q4 k4 g4,.map q5 k5 g5]],g0),(q3,k3,.arr 3 (List.map aG r1),h3),(q4,k4,aC iZ zKt r2,g4),(q5,k5,aC iZ zKt r3,g5),(q1,k1,.arr 1 (List.map iZ order),g1),(q2,k2,.arr 1 (List.map iZ place),g2)])) :
  Ctr prog 115 [cp refs,iZ first,.fn (.func 118) [.ptr q0 k0 g0 0 0] []] (stX S [(q0,k0,.arr 5 [.agg [.sl 1 q1 k1 g1 0 order.length,.sl 1 q2 k2 g2 0 place.length,.sl 3 q3 k3 g3 0 nodes.length,.map q4 k4 g4,.map q5 k5 g5]],g0),(q3,k3,.arr 3 (List.map aG nodes),g3),(q4,k4,aC iZ zKt unique,g4),(q5,k5,aC iZ zKt memo,g5),(q1,k1,.arr 1 (List.map iZ order),g1),(q2,k2,.arr 1 (List.map iZ place),g2)]) R:=by
 refine au func115 rfl ntmps115 results115 krZ (λrg hrg=>?_)
 have hdx:DX [(q0,k0,.arr 5 [.agg [.sl 1 q1 k1 g1 0 order.length,.sl 1 q2 k2 g2 0 place.length,.sl 3 q3 k3 g3 0 nodes.length,.map q4 k4 g4,.map q5 k5 g5]],g0),(q3,k3,.arr 3 (List.map aG nodes),g3),(q4,k4,aC iZ zKt unique,g4),(q5,k5,aC iZ zKt memo,g5),(q1,k1,.arr 1 (List.map iZ order),g1),(q2,k2,.arr 1 (List.map iZ place),g2)]:=hdk
 have hfr:=λX' e=>bF (S:=S) (rg:=rg) (X:=[(q0,k0,.arr 5 [.agg [.sl 1 q1 k1 g1 0 order.length,.sl 1 q2 k2 g2 0 place.length,.sl 3 q3 k3 g3 0 nodes.length,.map q4 k4 g4,.map q5 k5 g5]],g0),(q3,k3,.arr 3 (List.map aG nodes),g3),(q4,k4,aC iZ zKt unique,g4),(q5,k5,aC iZ zKt memo,g5),(q1,k1,.arr 1 (List.map iZ order),g1),(q2,k2,.arr 1 (List.map iZ place),g2)]) (X':=X') e hrg
 have hne0:=ak hdx hrg 0 rfl
 have hne3:=ak hdx hrg 1 rfl
 have hne4:=ak hdx hrg 2 rfl
 have hne5:=ak hdx hrg 3 rfl
 have hne1:=ak hdx hrg 4 rfl
 have hne2:=ak hdx hrg 5 rfl
 refine wk 12 λh=>?_
 refine lgZ h g3 (λy=>aw [(1,iZ y.1.1),(2,.fn (.func 118) [.ptr q0 k0 g0 0 0] []),(9,cp refs),(10,iZ (refs.length:Int)),(11,iZ y.1.2.1)]) (λy=>stL (stX S [(q0,k0,.arr 5 [.agg [.sl 1 q1 k1 g1 0 order.length,.sl 1 q2 k2 g2 0 place.length,.sl 3 q3 k3 y.2 0 y.1.2.2.1.length,.map q4 k4 g4,.map q5 k5 g5]],g0),(q3,k3,.arr 3 (List.map aG y.1.2.2.1),y.2),(q4,k4,aC iZ zKt y.1.2.2.2.1,g4),(q5,k5,aC iZ zKt y.1.2.2.2.2,g5),(q1,k1,.arr 1 (List.map iZ order),g1),(q2,k2,.arr 1 (List.map iZ place),g2)]) rg []) eCa (λy _ h=>?_)
 obtain⟨⟨first1,x,x1,x2,x3⟩,g6⟩:=y
 refine wk 5 λh=>?_
 refine cZ h O (λhb h=>?_) (λhb h=>?_)
 ·refine wk 13 λh hg h=>?_
  refine am<|clZ O<|fj (ah (atX hne0 hdx 0 O)<|ah (atX hne3 hdx 1 O)<|ah (atX hne4 hdx 2 O)<|ah (atX hne5 hdx 3 O)<|ah (atX hne1 hdx 4 O)<|ah (atX hne2 hdx 5 O)<|bI)<|lH (dkS [0,1,2,3,4,5] hdk O O) h λu u1 u2 first2 g7 h=>bL (bD (bD (bD (bD (ah (atX hne1 hdx 4 O)<|ah (atX hne2 hdx 5 O)<|bI)<|bp hne5 hdx 3 O O)<|bp hne4 hdx 2 O O)<|bp hne3 hdx 1 O O)<|bp hne0 hdx 0 O O) ?_
  exact wk 9999 trivial
 refine wk 6 λh=>?_
 exact uZ<|gv1 (hfr _ O)<|hQ _ _ _ _ _ h
theorem pC {x:GNode} {refs:List Int} {order:List Int} {place:List Int} {nodes:List GDNode} {unique:GMap Int} {memo:GMap Int} {q0 k0 g0 q1 k1 g1 q2 k2 g2 q3 k3 g3 q4 k4 g4 q5 k5 g5:Nat} (hdk:DK [(q0,k0),(q3,k3),(q4,k4),(q5,k5),(q1,k1),(q2,k2)]) {Q:List GDNode->GMap Int->GMap Int->Int->Prop} (h:fY x refs order place nodes unique memo Q) (hQ:∀r1 r2 r3 r4,∀h3,Q r1 r2 r3 r4->R (iZ r4) (stX S [(q0,k0,.arr 5 [.agg [.sl 1 q1 k1 g1 0 order.length,.sl 1 q2 k2 g2 0 place.length,.sl 3 q3 k3 h3 0 r1.length,.map q4 k4 g4,.map q5 k5 g5]],g0),(q3,k3,.arr 3 (List.map aG r1),h3),(q4,k4,aC iZ zKt r2,g4),(q5,k5,aC iZ zKt r3,g5),(q1,k1,.arr 1 (List.map iZ order),g1),(q2,k2,.arr 1 (List.map iZ place),g2)])) :
  Ctr prog 76 [.ptr q0 k0 g0 0 0,cz x,cp refs] (stX S [(q0,k0,.arr 5 [.agg [.sl 1 q1 k1 g1 0 order.length,.sl 1 q2 k2 g2 0 place.length,.sl 3 q3 k3 g3 0 nodes.length,.map q4 k4 g4,.map q5 k5 g5]],g0),(q3,k3,.arr 3 (List.map aG nodes),g3),(q4,k4,aC iZ zKt unique,g4),(q5,k5,aC iZ zKt memo,g5),(q1,k1,.arr 1 (List.map iZ order),g1),(q2,k2,.arr 1 (List.map iZ place),g2)]) R:=by
 refine au func76 rfl ntmps76 results76 krZ (λrg hrg=>?_)
 have hdx:DX [(q0,k0,.arr 5 [.agg [.sl 1 q1 k1 g1 0 order.length,.sl 1 q2 k2 g2 0 place.length,.sl 3 q3 k3 g3 0 nodes.length,.map q4 k4 g4,.map q5 k5 g5]],g0),(q3,k3,.arr 3 (List.map aG nodes),g3),(q4,k4,aC iZ zKt unique,g4),(q5,k5,aC iZ zKt memo,g5),(q1,k1,.arr 1 (List.map iZ order),g1),(q2,k2,.arr 1 (List.map iZ place),g2)]:=hdk
 have hfr:=λX' e=>bF (S:=S) (rg:=rg) (X:=[(q0,k0,.arr 5 [.agg [.sl 1 q1 k1 g1 0 order.length,.sl 1 q2 k2 g2 0 place.length,.sl 3 q3 k3 g3 0 nodes.length,.map q4 k4 g4,.map q5 k5 g5]],g0),(q3,k3,.arr 3 (List.map aG nodes),g3),(q4,k4,aC iZ zKt unique,g4),(q5,k5,aC iZ zKt memo,g5),(q1,k1,.arr 1 (List.map iZ order),g1),(q2,k2,.arr 1 (List.map iZ place),g2)]) (X':=X') e hrg
 have hne0:=ak hdx hrg 0 rfl
 have hne3:=ak hdx hrg 1 rfl
 have hne4:=ak hdx hrg 2 rfl
 have hne5:=ak hdx hrg 3 rfl
 have hne1:=ak hdx hrg 4 rfl
 have hne2:=ak hdx hrg 5 rfl
 refine wk 17 λg6 h=>?_
 refine cZ h O (λhb h=>?_) (λhb h=>?_)
 ·refine wk 6 λh=>?_
  exact uZ<|gv1 (hfr _ O)<|hQ _ _ _ _ _ h
 refine wk 5 λh=>?_
 refine cZ h O (λhb1 h=>?_) (λhb1 h=>?_)
 ·refine wk 6 λh hg h=>?_
  exact am<|clZ O<|fj (ah (atX hne0 hdx 0 O)<|ah (atX hne3 hdx 1 O)<|ah (atX hne4 hdx 2 O)<|ah (atX hne5 hdx 3 O)<|ah (atX hne1 hdx 4 O)<|ah (atX hne2 hdx 5 O)<|bI)<|gy (dkS [0,1,2,3,4,5] hdk O O) h λu u1 u2 r g7 h=>bL (bD (bD (bD (bD (ah (atX hne1 hdx 4 O)<|ah (atX hne2 hdx 5 O)<|bI)<|bp hne5 hdx 3 O O)<|bp hne4 hdx 2 O O)<|bp hne3 hdx 1 O O)<|bp hne0 hdx 0 O O)<|asZ (iZ r) O<|fI<|gv1 (hfr _ O)<|hQ _ _ _ _ _ h
 refine wk 5 λh=>?_
 refine cZ h O (λhb2 h=>?_) (λhb2 h=>?_)
 ·refine wk 4 λh=>?_
  exact wZ rg<|u' (vs:=[.ptr q0 k0 g0 0 0]) (us:=[]) O O<|am<|clZ O<|fj (ah (atX hne0 hdx 0 O)<|ah (atX hne3 hdx 1 O)<|ah (atX hne4 hdx 2 O)<|ah (atX hne5 hdx 3 O)<|ah (atX hne1 hdx 4 O)<|ah (atX hne2 hdx 5 O)<|bI)<|pD (dkS [0,1,2,3,4,5] hdk O O) h λu3 u4 u5 r1 g8 h=>bL (bD (bD (bD (bD (ah (atX hne1 hdx 4 O)<|ah (atX hne2 hdx 5 O)<|bI)<|bp hne5 hdx 3 O O)<|bp hne4 hdx 2 O O)<|bp hne3 hdx 1 O O)<|bp hne0 hdx 0 O O)<|asZ (iZ r1) O<|fI<|gv1 (hfr _ O)<|hQ _ _ _ _ _ h
 refine wk 5 λh=>?_
 refine cZ h O (λhb3 h=>?_) (λhb3 h=>?_)
 ·refine wk 4 λh=>?_
  exact wZ rg<|u' (vs:=[.ptr q0 k0 g0 0 0]) (us:=[]) O O<|am<|clZ O<|fj (ah (atX hne0 hdx 0 O)<|ah (atX hne3 hdx 1 O)<|ah (atX hne4 hdx 2 O)<|ah (atX hne5 hdx 3 O)<|ah (atX hne1 hdx 4 O)<|ah (atX hne2 hdx 5 O)<|bI)<|oP (dkS [0,1,2,3,4,5] hdk O O) h λu6 u7 u8 r2 g9 h=>bL (bD (bD (bD (bD (ah (atX hne1 hdx 4 O)<|ah (atX hne2 hdx 5 O)<|bI)<|bp hne5 hdx 3 O O)<|bp hne4 hdx 2 O O)<|bp hne3 hdx 1 O O)<|bp hne0 hdx 0 O O)<|asZ (iZ r2) O<|fI<|gv1 (hfr _ O)<|hQ _ _ _ _ _ h
 refine wk 5 λh=>?_
 refine cZ h O (λhb4 h=>?_) (λhb4 h=>?_)
 ·refine wk 4 λh=>?_
  exact wZ rg<|u' (vs:=[.ptr q0 k0 g0 0 0]) (us:=[]) O O<|am<|clZ O<|fj (ah (atX hne0 hdx 0 O)<|ah (atX hne3 hdx 1 O)<|ah (atX hne4 hdx 2 O)<|ah (atX hne5 hdx 3 O)<|ah (atX hne1 hdx 4 O)<|ah (atX hne2 hdx 5 O)<|bI)<|oO (dkS [0,1,2,3,4,5] hdk O O) h λu9 u10 u11 r3 g10 h=>bL (bD (bD (bD (bD (ah (atX hne1 hdx 4 O)<|ah (atX hne2 hdx 5 O)<|bI)<|bp hne5 hdx 3 O O)<|bp hne4 hdx 2 O O)<|bp hne3 hdx 1 O O)<|bp hne0 hdx 0 O O)<|asZ (iZ r3) O<|fI<|gv1 (hfr _ O)<|hQ _ _ _ _ _ h
 refine wk 7 λh=>?_
 exact am<|clZ O<|fj (ah (atX hne0 hdx 0 O)<|ah (atX hne3 hdx 1 O)<|ah (atX hne4 hdx 2 O)<|ah (atX hne5 hdx 3 O)<|ah (atX hne1 hdx 4 O)<|ah (atX hne2 hdx 5 O)<|bI)<|pB (dkS [0,1,2,3,4,5] hdk O O) h λu12 u13 u14 r4 g11 h=>bL (bD (bD (bD (bD (ah (atX hne1 hdx 4 O)<|ah (atX hne2 hdx 5 O)<|bI)<|bp hne5 hdx 3 O O)<|bp hne4 hdx 2 O O)<|bp hne3 hdx 1 O O)<|bp hne0 hdx 0 O O)<|asZ (iZ r4) O<|fI<|gv1 (hfr _ O)<|hQ _ _ _ _ _ h
theorem rz {f:GFormula} {o:List Int} {Q:GDiagram->Option Int->Prop} (h:fN f o Q) (hQ:∀r1 r2,Q r1 r2->R (.tuple [lE r1,cw 39 r2]) S) :
  Ctr prog 37 [aI f,cp o] S R:=by
 refine au func37 rfl ntmps37 results37 krZ (λrg hrg=>?_)
 refine wk 9 λg1 g2 h=>?_
 refine am<|clZ O<|sj h λr r1 r2 h=>?_
 refine wk 14 λh=>?_
 refine cZ h O (λhb h=>?_) (λhb h=>?_)
 ·refine dA<|am<|bx wg tX Ad yQ qH (ps:=[]) O O (v:=.agg [.nil,.nil,iZ 0]) O ?_
  refine wk 4 λh=>?_
  exact uZ<|aO (aZ 4 O) qH dZ yt O O (v:=.agg [.nil,.nil,iZ 0]) O<|aj (v:=cw 39 r2) O<|aq<|ar hrg (VW.tupL<|vl' (VW.aggL<|vl' (VW.nilL)<|vl' (VW.nilL)<|vZ<|vn)<|vZ<|vn)<|hQ _ _ h
 refine wk 7 λh=>?_
 refine am<|clZ O<|tB h λerr h=>?_
 refine wk 7 λh=>?_
 refine cZ h O (λhb1 h=>?_) (λhb1 h=>?_)
 ·refine dA<|am<|bx wg tX Ad yQ qH (ps:=[]) O O (v:=.agg [.nil,.nil,iZ 0]) O ?_
  refine wk 4 λh=>?_
  exact uZ<|aO (aZ 4 O) qH dZ yt O O (v:=.agg [.nil,.nil,iZ 0]) O<|aj (v:=cw 39 err) O<|aq<|ar hrg (VW.tupL<|vl' (VW.aggL<|vl' (VW.nilL)<|vl' (VW.nilL)<|vZ<|vn)<|vZ<|vn)<|hQ _ _ h
 refine kZ<|jgZ (γ:=Nat×Nat) h (λy=>aw [(1,cp o),(2,.ptr rg 2 y.2.1 0 0),(4,.ptr rg 4 y.2.2 0 0)]) (λy=>stL S rg [(2,.arr 3 [aI y.1],y.2.1),(4,.arr 3 [.agg [.nil,.nil,iZ 0]],y.2.2)]) (λy h=>?_) (λ_ h=>?_)
 ·obtain⟨x,⟨g3,g4⟩⟩:=y
  refine dA<|mvZ (cp o) O<|am<|clZ O<|su rg 5000000 5000001 5000002 5000003 5000004 h λorder place unique memo g5 g6 g7 g8 g9 h=>bL (bD (bD (bD (bD (bD (bI) bY) bY) bY) bY) bY) ?_
  refine wk 10 λh hg h=>?_
  refine tkZ h (λhg1 h=>wZ rg<|fg ge oS ok3 (enc:=iZ) (z':=0) gC (kk:=1) O O O hg1 (λg10=>?_))
  refine wk 10 λh=>?_
  refine Vc.matB 5000000 2 5000001002 3 (b:=λg11=>.agg [.sl 1 rg 5000001 g6 0 order.length,.sl 1 rg 5000002 g7 0 place.length,.sl 3 rg 5000001002 g11 0 0,.map rg 5000003 g8,.map rg 5000004 g9]) O O dZ dZ O (λg11=>lgZ h g11 (λy=>aw [(2,.ptr rg 2 g3 0 0),(4,.ptr rg 4 g4 0 0),(10,.ptr rg 5000000 g5 0 0),(11,.sl 1 rg 56 g10 0 y.1.2.1.length),(58,iZ x.A),(59,iZ y.1.1)]) (λy=>stL S rg [(2,.arr 3 [aI x],g3),(4,.arr 3 [.agg [.nil,.nil,iZ 0]],g4),(56,.arr 1 (List.map iZ y.1.2.1),g10),(5000000,.arr 5 [.agg [.sl 1 rg 5000001 g6 0 order.length,.sl 1 rg 5000002 g7 0 place.length,.sl 3 rg 5000001002 y.2 0 y.1.2.2.2.length,.map rg 5000003 g8,.map rg 5000004 g9]],g5),(5000001,.arr 1 (List.map iZ order),g6),(5000002,.arr 1 (List.map iZ place),g7),(5000003,aC iZ zKt y.1.2.2.1,g8),(5000004,aC iZ zKt memo,g9),(5000001002,.arr 3 (List.map aG y.1.2.2.2),y.2)]) (EWk.trans (EWk.ow (k:=5000000) (o':=.arr 5 [.agg [.sl 1 rg 5000001 g6 0 order.length,.sl 1 rg 5000002 g7 0 place.length,.sl 3 rg 5000001002 g11 0 ([].length),.map rg 5000003 g8,.map rg 5000004 g9]]) O<|OW.one<|VWL.vwc<|vZ<|vZ<|vl' (VW.slen lzZ)<|vZ<|vZ<|vn)<|canon (fZ<|fZ<|fZ<|fc (VW.slen lzZ)<|fZ<|fZ<|fn)<|od O O O O<|od O O O O<|sc O<|sn) (λy _ h=>?_))
  obtain⟨⟨x1,refs,x2,x3⟩,g12⟩:=y
  refine wk 5 λh=>?_
  refine cZ h O (λhb2 h=>?_) (λhb2 h=>?_)
  ·refine wk 13 λh=>?_
   refine am<|clZ O<|fj (ah (aZ 5000000 O)<|ah (aZ 5000001002 O)<|ah (aZ 5000003 O)<|ah (aZ 5000001 O)<|ah (aZ 5000002 O)<|ah (aZ 5000004 O)<|bI)<|jO eDk h λu u1 r3 g13 h=>bL (bD (bD (bD (ah (aZ 5000001 O)<|ah (aZ 5000002 O)<|ah (aZ 5000004 O)<|bI) bY) bY) bY) ?_
   exact wk 9999 trivial
  refine wk 10 λh=>?_
  refine lgZ h g12 (λy=>aw [(2,.ptr rg 2 g3 0 0),(4,.ptr rg 4 g4 0 0),(10,.ptr rg 5000000 g5 0 0),(11,.sl 1 rg 56 g10 0 y.1.2.1.length),(70,eL cz x.N),(71,iZ (x.N.length:Int)),(72,iZ y.1.1)]) (λy=>stL S rg [(2,.arr 3 [aI x],g3),(4,.arr 3 [.agg [.nil,.nil,iZ 0]],g4),(56,.arr 1 (List.map iZ y.1.2.1),g10),(5000000,.arr 5 [.agg [.sl 1 rg 5000001 g6 0 order.length,.sl 1 rg 5000002 g7 0 place.length,.sl 3 rg 5000001002 y.2 0 y.1.2.2.2.2.length,.map rg 5000003 g8,.map rg 5000004 g9]],g5),(5000001,.arr 1 (List.map iZ order),g6),(5000002,.arr 1 (List.map iZ place),g7),(5000003,aC iZ zKt y.1.2.2.1,g8),(5000004,aC iZ zKt y.1.2.2.2.1,g9),(5000001002,.arr 3 (List.map aG y.1.2.2.2.2),y.2)]) eCa (λy _ h=>?_)
  obtain⟨⟨x4,refs1,x5,x6,x7⟩,g14⟩:=y
  refine wk 5 λh=>?_
  refine cZ h O (λhb3 h=>?_) (λhb3 h=>?_)
  ·refine wk 25 λg15 h hg3 h=>?_
   refine Vc.mat 15 90 1 O dZ (λg16=>lgZ h g16 (λy=>aw [(2,.ptr rg 2 g3 0 0),(4,.ptr rg 4 g4 0 0),(10,.ptr rg 5000000 g5 0 0),(11,.sl 1 rg 56 g10 0 refs1.length),(13,iZ x4),(14,.ptr rg 14 g15 0 0),(15,.sl 1 rg 90 y.2 0 y.1.2.length),(70,eL cz x.N),(71,iZ (x.N.length:Int)),(72,iZ x4),(78,cp ((at' x.N x4).M)),(79,iZ (((at' x.N x4).M).length:Int)),(80,iZ y.1.1)]) (λy=>stL S rg [(2,.arr 3 [aI x],g3),(4,.arr 3 [.agg [.nil,.nil,iZ 0]],g4),(14,.arr 3 [cz (at' x.N x4)],g15),(56,.arr 1 (List.map iZ refs1),g10),(90,.arr 1 (List.map iZ y.1.2),y.2),(5000000,.arr 5 [.agg [.sl 1 rg 5000001 g6 0 order.length,.sl 1 rg 5000002 g7 0 place.length,.sl 3 rg 5000001002 g14 0 x7.length,.map rg 5000003 g8,.map rg 5000004 g9]],g5),(5000001,.arr 1 (List.map iZ order),g6),(5000002,.arr 1 (List.map iZ place),g7),(5000003,aC iZ zKt x5,g8),(5000004,aC iZ zKt x6,g9),(5000001002,.arr 3 (List.map aG x7),g14)]) (canon (gb<|fZ<|fZ<|fc (VW.slen lzZ)<|gb<|fZ<|fZ<|fn)<|od O O O O<|od O O O O<|sc O<|sc O<|sc O<|sn) (λy _ h=>?_))
   obtain⟨⟨x8,args⟩,g17⟩:=y
   refine wk 5 λh=>?_
   refine cZ h O (λhb4 h=>?_) (λhb4 h=>?_)
   ·refine wk 15 λh hg4 h hi1 h=>?_
    refine wZ rg<|aV ge ok3 gC (es:=[iZ (at' refs1<|at' ((at' x.N x4).M) x8)]) O (kk:=1) O O O O O O (λg18=>tkZ h (λhg5 h=>wZ rg<|cu ge oS ok3 gC (es:=args) (xs:=[(at' refs1<|at' ((at' x.N x4).M) x8)]) (enc:=iZ) (aZ 90 O) lzZ (bi (aZ 89 O) lzZ) (kk:=1) O O (λ_=>O) (λ_=>O) hg5 O (λ_=>bY) (λg19=>?_)))
    exact wk 9999 trivial
   refine xsZ<|qZ<|oV (aW (k:=90) (xs:=List.map iZ args) O (es:=[(2,.ptr rg 2 g3 0 0),(4,.ptr rg 4 g4 0 0),(10,.ptr rg 5000000 g5 0 0),(11,.sl 1 rg 56 g10 0 refs1.length),(13,iZ x4),(14,.ptr rg 14 g15 0 0),(15,cp args),(70,eL cz x.N),(71,iZ (x.N.length:Int)),(72,iZ x4)]) (fZ<|fZ<|fZ<|fc (fT O)<|fZ<|fZ<|fc (aL O)<|fZ<|fZ<|fZ<|fn) (m:=[(2,.arr 3 [aI x],g3),(4,.arr 3 [.agg [.nil,.nil,iZ 0]],g4),(14,.arr 3 [cz (at' x.N x4)],g15),(56,.arr 1 (List.map iZ refs1),g10),(5000000,.arr 5 [.agg [.sl 1 rg 5000001 g6 0 order.length,.sl 1 rg 5000002 g7 0 place.length,.sl 3 rg 5000001002 g14 0 x7.length,.map rg 5000003 g8,.map rg 5000004 g9]],g5),(5000001,.arr 1 (List.map iZ order),g6),(5000002,.arr 1 (List.map iZ place),g7),(5000003,aC iZ zKt x5,g8),(5000004,aC iZ zKt x6,g9),(5000001002,.arr 3 (List.map aG x7),g14)]) (od O O O O<|od O O O O<|sc O<|sc O<|sn)) (tkZ h (λhg7 h=>?_))
   obtain⟨u2,u3,u4,r4,hc,h⟩:=h
   refine tkZ h (λhi2 h=>Vc.drawn' mixed rg (gd [(8,wc (λ_=>iZ r4) [(rg,5000001),(rg,5000002)] [(rg,5000000),(rg,5000001002),(rg,5000003),(rg,5000004)] (λgm=>[(rg,5000000,.arr 5 [.agg [.sl 1 rg 5000001 g6 0 order.length,.sl 1 rg 5000002 g7 0 place.length,.sl 3 rg 5000001002 (gm 0) 0 u2.length,.map rg 5000003 g8,.map rg 5000004 g9]],g5),(rg,5000001002,.arr 3 (List.map aG u2),(gm 0)),(rg,5000003,aC iZ zKt u3,g8),(rg,5000004,aC iZ zKt u4,g9)]))]) krZ ?_)
   refine wk 4 λh=>?_
   refine dP O O<|qh O O hg7 ?_
   refine wk 3 λh=>?_
   refine dCE (vs:=[.ptr rg 5000000 g5 0 0,cz (at' x.N x4),cp args]) (V:=λ_=>iZ r4) (rd:=[(rg,5000001),(rg,5000002)]) (wk:=[(rg,5000000),(rg,5000001002),(rg,5000003),(rg,5000004)]) (wr:=λgm=>[(rg,5000000,.arr 5 [.agg [.sl 1 rg 5000001 g6 0 order.length,.sl 1 rg 5000002 g7 0 place.length,.sl 3 rg 5000001002 (gm 0) 0 u2.length,.map rg 5000003 g8,.map rg 5000004 g9]],g5),(rg,5000001002,.arr 3 (List.map aG u2),(gm 0)),(rg,5000003,aC iZ zKt u3,g8),(rg,5000004,aC iZ zKt u4,g9)]) rfl (vZ<|vZ<|vZ<|vn) rfl (cfo krZ<|cfa zAp eCf) zSm (λ_=>rfl) (λS' hA hB=>fj (ah (ag hB 0 rfl<|aZ 5000000 rfl)<|ah (ag hB 1 rfl<|aZ 5000001002 rfl)<|ah (ag hB 2 rfl<|aZ 5000003 rfl)<|ah (ag hB 3 rfl<|aZ 5000004 rfl)<|ah (ag hA 0 rfl<|aZ 5000001 rfl)<|ah (ag hA 1 rfl<|aZ 5000002 rfl)<|bI)<|pC eDk hc (λ_ _ _ _ h3 he=>by obtain⟨rfl,rfl,rfl,rfl⟩:=he;exact⟨λi=>[h3].getD i 0,rfl,uk (uk<|uk<|uk<|ah (ag hA 0 rfl<|aZ 5000001 rfl)<|ah (ag hA 1 rfl<|aZ 5000002 rfl)<|bI)⟩)) (λgm=>nc (ur (ur (ur (ur (AB) bY) bY) bY) bY)<|dP O O<|aS ge sz3 dZ O O hi2 ?_)
   refine wk 12 λh hg8 h hi3 h=>?_
   refine am<|clZ O<|fj (ah (aZ 5000000 O)<|ah (aZ 5000001 O)<|ah (aZ 5000002 O)<|ah (aZ 5000001002 O)<|ah (aZ 5000003 O)<|ah (aZ 5000004 O)<|bI)<|km eDk h λr5 h=>bL (ah (aZ 5000000 O)<|ah (aZ 5000001 O)<|ah (aZ 5000002 O)<|ah (aZ 5000001002 O)<|ah (aZ 5000003 O)<|ah (aZ 5000004 O)<|bI)<|am<|uV O<|nZ<|cZ h O (λhb5 h=>?_) (λhb5 h=>?_)
   ·refine dA<|am<|bx wg tX Ad yQ qH (ps:=[]) O O (v:=.agg [.nil,.nil,iZ 0]) O ?_
    refine wk 4 λh=>?_
    exact uZ<|aO (aZ 4 O) qH dZ yt O O (v:=.agg [.nil,.nil,iZ 0]) O<|aj (v:=.iface 39 (iZ 4)) O<|aq<|ar hrg (VW.tupL<|vl' (VW.aggL<|vl' (VW.nilL)<|vl' (VW.nilL)<|vZ<|vn)<|vZ<|vn)<|hQ _ _ h
   exact wk 9999 trivial
  refine wk 9 λh hi4 h=>?_
  refine am<|clZ O<|fj (ah (aZ 5000000 O)<|ah (aZ 5000001 O)<|ah (aZ 5000002 O)<|ah (aZ 5000001002 O)<|ah (aZ 5000003 O)<|ah (aZ 5000004 O)<|bI)<|jN eDk h λr6 h=>bL (ah (aZ 5000000 O)<|ah (aZ 5000001 O)<|ah (aZ 5000002 O)<|ah (aZ 5000001002 O)<|ah (aZ 5000003 O)<|ah (aZ 5000004 O)<|bI) ?_
  refine wk 3 λh=>?_
  exact uZ<|aO (aZ 4 O) qH dZ yt O O (v:=lE r6) O<|aj (v:=.niface) O<|aq<|ar hrg eVw<|hQ _ _ h
 refine wk 5 λh=>?_
 refine cZ h O (λhb6 h=>?_) (λhb6 h=>?_)
 ·refine wk 3 λh=>?_
  refine am<|clZ O<|si h λr7 r8 h=>?_
  refine wk 11 λh=>?_
  refine cZ h O (λhb7 h=>?_) (λhb7 h=>?_)
  ·refine dA<|am<|bx wg tX Ad yQ qH (ps:=[]) O O (v:=.agg [.nil,.nil,iZ 0]) O ?_
   refine wk 4 λh=>?_
   exact uZ<|aO (aZ 4 O) qH dZ yt O O (v:=.agg [.nil,.nil,iZ 0]) O<|aj (v:=cw 39 r8) O<|aq<|ar hrg (VW.tupL<|vl' (VW.aggL<|vl' (VW.nilL)<|vl' (VW.nilL)<|vZ<|vn)<|vZ<|vn)<|hQ _ _ h
  exact wk 9999 trivial
 refine wk 4 λh=>?_
 exact⟨((⟨f.A,[],f.Z⟩:GFormula),(g1,g2)),(EWk.trans (EWk.ow (k:=2) (o':=.arr 3 [aI (⟨f.A,[],f.Z⟩:GFormula)]) O<|OW.one<|VWL.vwc<|vZ<|vl' (VW.nilL)<|vZ<|vn)<|canon (fZ<|fZ<|fZ<|fn)<|sc O<|sc O<|sn),h⟩
end Go.Proofs.YtcmagbhiioheeaaGreatDoor
namespace Go.Proofs.YtcmagbhiioheeaaGreatDoor
open Go.Gg Tryz
set_option maxRecDepth 100000
set_option maxHeartbeats 2000000
variable {S:St} {R:AV->St->Prop}
theorem py {x:GRat} {Q:Bool->Prop} (h:lT x Q) (hQ:∀r1,Q r1->R (AV.bool r1) S) :
  Ctr prog 68 [af x] S R:=by
 refine au func68 rfl ntmps68 results68 krZ (λrg hrg=>?_)
 refine wk 8 λg1 h=>?_
 refine am<|clZ O<|qR h λr h=>?_
 refine wk 3 λh=>?_
 exact uZ<|gv1 hrg<|hQ _ h
theorem dD {s:List GRat} {Q:Int->Prop} (h:bt s Q) (hQ:∀r1,Q r1->R (iZ r1) S) :
  Ctr prog 110 [eL af s,.fn (.func 68) [] []] S R:=by
 refine au func110 rfl ntmps110 results110 krZ (λrg hrg=>?_)
 refine wk 12 λh=>?_
 refine lpZ h (λy=>aw [(0,eL af s),(1,.fn (.func 68) [] []),(7,iZ (s.length:Int)),(8,iZ y)]) (λy=>stL S rg []) eCa (λx _ h=>?_)
 refine wk 5 λh=>?_
 refine cZ h O (λhb h=>?_) (λhb h=>?_)
 ·refine wk 15 λh hg h=>?_
  refine am<|clZ O<|py h λr h=>nZ<|cZ h O (λhb1 h=>?_) (λhb1 h=>?_)
  ·refine wk 5 λh=>?_
   exact uZ<|gv1 hrg<|hQ _ h
  exact wk 9999 trivial
 refine wk 5 λh=>?_
 exact uZ<|gv1 hrg<|hQ _ h
theorem dj {s:List GRat} {Q:Bool->Prop} (h:bm s Q) (hQ:∀r1,Q r1->R (AV.bool r1) S) :
  Ctr prog 67 [eL af s,.fn (.func 68) [] []] S R:=by
 refine au func67 rfl ntmps67 results67 krZ (λrg hrg=>?_)
 refine wk 8 λh=>?_
 refine am<|clZ O<|dD h λr h=>?_
 refine wk 3 λh=>?_
 exact uZ<|gv1 hrg<|hQ _ h
theorem qK {p:List GRat} {vars:Int} {Q:Option Int->Prop} (h:jT p vars Q) (hQ:∀r1,Q r1->R (cw 39 r1) S) :
  Ctr prog 35 [eL af p,iZ vars] S R:=by
 refine au func35 rfl ntmps35 results35 krZ (λrg hrg=>?_)
 refine wk 14 λh=>?_
 refine cZ h O (λhb h=>?_) (λhb h=>?_)
 ·refine wk 5 λh=>?_
  exact uZ<|gv1 hrg<|hQ _ h
 refine dA<|mvZ (eL af p) O<|am<|clZ O<|dj h λr h=>asZ (.bool r) O<|nZ<|cZ h O (λhb1 h=>?_) (λhb1 h=>?_)
 ·refine wk 5 λh=>?_
  exact uZ<|gv1 hrg<|hQ _ h
 refine wk 5 λh=>?_
 exact uZ<|gv1 hrg<|hQ _ h
theorem un {v:List GRat} {r:Int} {Q:GRat->Prop} (h:nt v r Q) (hQ:∀r1,Q r1->R (af r1) S) :
  Ctr prog 38 [eL af v,iZ r] S R:=by
 refine au func38 rfl ntmps38 results38 krZ (λrg hrg=>?_)
 refine wk 10 λg1 h=>?_
 refine cZ h O (λhb h=>?_) (λhb h=>?_)
 ·refine dA<|mvZ (iZ r) O<|am<|clZ O<|co h λr1 h=>?_
  refine wk 2 λh=>?_
  exact uZ<|aO (aZ 4 O) bf dZ dT O O (v:=af r1) O<|aq<|goZ hrg<|hQ _ h
 refine wk 10 λh hg h hg1 h=>?_
 exact uZ<|aO (aZ 4 O) bf dZ dT O O (v:=af (at' v<|r-2)) O (aq<|goZ hrg<|hQ _ h)
theorem lS {r:Int} {v:List GRat} {q0 k0 g0:Nat} (hdk:DK [(q0,k0)]) {Q:GRat->Prop} (h:jS r v Q) (hQ:∀r1,Q r1->R (af r1) (stX S [(q0,k0,.arr 3 (List.map af v),g0)])) :
  Ctr prog 38 [.sl 3 q0 k0 g0 0 v.length,iZ r] (stX S [(q0,k0,.arr 3 (List.map af v),g0)]) R:=by
 refine au func38 rfl ntmps38 results38 krZ (λrg hrg=>?_)
 have hdx:DX [(q0,k0,.arr 3 (List.map af v),g0)]:=hdk
 have hfr:=λX' e=>bF (S:=S) (rg:=rg) (X:=[(q0,k0,.arr 3 (List.map af v),g0)]) (X':=X') e hrg
 have hne0:=ak hdx hrg 0 rfl
 refine wk 10 λg1 h=>?_
 refine cZ h O (λhb h=>?_) (λhb h=>?_)
 ·refine dA<|mvZ (iZ r) O<|am<|clZ O<|co h λr1 h=>?_
  refine wk 2 λh=>?_
  exact uZ<|aO (aZ 4 O) bf dZ dT O O (v:=af r1) O<|aq<|goZ (hfr _ O)<|hQ _ h
 refine wk 10 λh hg h hi h=>?_
 exact uZ<|aO (aZ 4 O) bf dZ dT O O (v:=af (at' v<|r-2)) O (aq<|goZ (hfr _ O)<|hQ _ h)
theorem pw {n:GDNode} {p:List GRat} {v:List GRat} {q0 k0 g0:Nat} (hdk:DK [(q0,k0)]) {Q:GRat->Prop} (h:iy n p v Q) (hQ:∀r1,Q r1->R (af r1) (stX S [(q0,k0,.arr 3 (List.map af v),g0)])) :
  Ctr prog 79 [aG n,eL af p,.sl 3 q0 k0 g0 0 v.length] (stX S [(q0,k0,.arr 3 (List.map af v),g0)]) R:=by
 refine au func79 rfl ntmps79 results79 krZ (λrg hrg=>?_)
 have hdx:DX [(q0,k0,.arr 3 (List.map af v),g0)]:=hdk
 have hfr:=λX' e=>bF (S:=S) (rg:=rg) (X:=[(q0,k0,.arr 3 (List.map af v),g0)]) (X':=X') e hrg
 have hne0:=ak hdx hrg 0 rfl
 refine wk 16 λg1 g2 g3 h hg h=>?_
 obtain⟨r,hc,h⟩:=h
 obtain⟨r1,hc1,h⟩:=h
 obtain⟨r2,hc2,h⟩:=h
 obtain⟨r3,hc3,h⟩:=h
 obtain⟨r4,hc4,h⟩:=h
 obtain⟨r5,hc5,h⟩:=h
 obtain⟨r6,hc6,h⟩:=h
 refine Vc.drawn' mixed rg (gd [(0,pc (af r)),(2,pc (af r1)),(6,wc (λ_=>af r2) [(q0,k0)] [] (λ_=>[])),(7,pc (af r3)),(12,wc (λ_=>af r4) [(q0,k0)] [] (λ_=>[])),(13,pc (af r5)),(14,pc (af r6))]) krZ (dC (vs:=[iZ 1]) O (vZ<|vn) (λ_=>co hc (λ_ hr=>⟨by rw[hr],rfl⟩)) O<|dL (E:=([(rg,7)],[])) O O zSm eCf (cG (aZ 7 O) bf dZ dT O O (v:=af (at' p n.Y)) O<|dC (vs:=[af r,af (at' p n.Y)]) O (vZ<|vZ<|vn) (λ_=>dm hc1 (λ_ hr=>⟨by rw[hr],rfl⟩)) O ?_))
 refine wk 3 λh=>?_
 refine dCE (vs:=[.sl 3 q0 k0 g0 0 v.length,iZ n.E]) (V:=λ_=>af r2) (rd:=[(q0,k0)]) (wk:=[]) (wr:=λ_=>[]) rfl (vZ<|vZ<|vn) rfl eCf zSm (λ_=>rfl) (λS' hA hB=>fj (ah (ag hA 0 rfl<|atX hne0 hdx 0 rfl)<|bI)<|lS eDk hc2 (λ_ he=>by obtain rfl:=he;exact⟨λi=>([]:List Nat).getD i 0,rfl,ah (ag hA 0 rfl<|atX hne0 hdx 0 rfl) (bI)⟩)) (λ_=>nc (AB)<|dC (vs:=[af r1,af r2]) O (vZ<|vZ<|vn) (λ_=>ee hc3 (λ_ hr=>⟨by rw[hr],rfl⟩)) O<|dL (E:=([(rg,7)],[])) O O zSm (cfa zAp<|cfa zAp<|cfa zAp eCf) (cG (aZ 7 O) bf dZ dT O O (v:=af (at' p n.Y)) O ?_))
 refine wk 3 λh=>?_
 refine dCE (vs:=[.sl 3 q0 k0 g0 0 v.length,iZ n.I]) (V:=λ_=>af r4) (rd:=[(q0,k0)]) (wk:=[]) (wr:=λ_=>[]) rfl (vZ<|vZ<|vn) rfl (cfo krZ<|cfa zAp eCf) zSm (λ_=>rfl) (λS' hA hB=>fj (ah (ag hA 0 rfl<|atX hne0 hdx 0 rfl)<|bI)<|lS eDk hc4 (λ_ he=>by obtain rfl:=he;exact⟨λi=>([]:List Nat).getD i 0,rfl,ah (ag hA 0 rfl<|atX hne0 hdx 0 rfl) (bI)⟩)) (λ_=>nc (AB)<|dC (vs:=[af (at' p n.Y),af r4]) O (vZ<|vZ<|vn) (λ_=>ee hc5 (λ_ hr=>⟨by rw[hr],rfl⟩)) O<|dC (vs:=[af r3,af r5]) O (vZ<|vZ<|vn) (λ_=>bE hc6 (λ_ hr=>⟨by rw[hr],rfl⟩)) O ?_)
 refine wk 2 λh=>?_
 exact uZ<|aO (aZ 6 O) bf dZ dT O O (v:=af r6) O<|aq<|goZ (hfr _ O)<|hQ _ h
theorem qb {d:GDiagram} {p:List GRat} {Q:List GRat->Prop} (h:jc d p Q) (hQ:∀r1,Q r1->R (eL af r1) S) :
  Ctr prog 39 [lE d,eL af p] S R:=by
 refine au func39 rfl ntmps39 results39 krZ (λrg hrg=>?_)
 refine wk 10 λg1 h=>?_
 refine tkZ h (λhg h=>wZ rg<|fW df iM iT cx (kk:=3) O O O hg (λg2=>dr (EWk.ow (k:=11) (o':=.arr 3 (List.map af<|aQ 0 (⟨false,[],[]⟩:GRat))) O (OW.rep<|VWL.vwc<|vZ<|vl' (VW.nilL)<|vl' (VW.nilL)<|vn)) ?_))
 refine wk 11 λh=>?_
 refine lgZ h g2 (λy=>aw [(1,eL af p),(5,.sl 3 rg 11 y.2 0 y.1.2.length),(13,eL aG d.N),(14,iZ (d.N.length:Int)),(15,iZ y.1.1)]) (λy=>stL S rg [(11,.arr 3 (List.map af y.1.2),y.2)]) (canon (fZ<|fc (VW.slen lzZ)<|fZ<|fZ<|fZ<|fn)<|sc O<|sn) (λy _ h=>?_)
 obtain⟨⟨x,v⟩,g3⟩:=y
 refine wk 5 λh=>?_
 refine cZ h O (λhb h=>?_) (λhb h=>?_)
 ·refine wk 15 λg4 h hg1 h=>?_
  refine am<|clZ O<|fj (ah (aZ 11 O)<|bI)<|pw eDk h λr h=>bL (ah (aZ 11 O)<|bI)<|wZ rg<|aV df iT cx (es:=[af r]) O (kk:=3) O O O O O O (λg5=>tkZ h (λhg2 h=>wZ rg<|cu df iM iT cx (es:=v) (xs:=[r]) (enc:=af) (aZ 11 O) lzZ (bi (aZ 24 O) lzZ) (kk:=3) O O (λ_=>O) (λ_=>O) hg2 O (λ_=>bY) (λg6=>?_)))
  exact wk 9999 trivial
 refine wk 6 λh=>?_
 exact uZ<|aj (v:=.sl 3 rg 11 g3 0 v.length) O<|aq<|aP (k:=11) (xs:=List.map af v) O (v':=eL af v) (aL O)<|goZ hrg<|hQ _ h
theorem tk {f:GFormula} {p:List GRat} {Q:GRat->Option Int->Prop} (h:mh f p Q) (hQ:∀r1 r2,Q r1 r2->R (.tuple [af r1,cw 39 r2]) S) :
  Ctr prog 12 [aI f,eL af p] S R:=by
 refine au func12 rfl ntmps12 results12 krZ (λrg hrg=>?_)
 refine wk 10 λg1 g2 h=>?_
 refine am<|clZ O<|dJ h λerr h=>?_
 refine wk 7 λh=>?_
 refine cZ h O (λhb h=>?_) (λhb h=>?_)
 ·refine dA<|am<|bx mg cx kw kp bf (ps:=[]) O O (v:=.agg [.bool false,.nil,.nil]) O ?_
  refine wk 4 λh=>?_
  exact uZ<|aO (aZ 4 O) bf dZ dT O O (v:=.agg [.bool false,.nil,.nil]) O<|aj (v:=cw 39 err) O<|aq<|ar hrg (VW.tupL<|vl' (VW.aggL<|vZ<|vl' (VW.nilL)<|vl' (VW.nilL)<|vn)<|vZ<|vn)<|hQ _ _ h
 refine wk 7 λh=>?_
 refine am<|clZ O<|qK h λerr1 h=>?_
 refine wk 7 λh=>?_
 refine cZ h O (λhb1 h=>?_) (λhb1 h=>?_)
 ·refine dA<|am<|bx mg cx kw kp bf (ps:=[]) O O (v:=.agg [.bool false,.nil,.nil]) O ?_
  refine wk 4 λh=>?_
  exact uZ<|aO (aZ 4 O) bf dZ dT O O (v:=.agg [.bool false,.nil,.nil]) O<|aj (v:=cw 39 err1) O<|aq<|ar hrg (VW.tupL<|vl' (VW.aggL<|vZ<|vl' (VW.nilL)<|vl' (VW.nilL)<|vn)<|vZ<|vn)<|hQ _ _ h
 refine wk 4 λh=>?_
 refine am<|clZ O<|tA h λr r1 h=>?_
 refine wk 12 λh=>?_
 refine cZ h O (λhb2 h=>?_) (λhb2 h=>?_)
 ·refine dA<|am<|bx mg cx kw kp bf (ps:=[]) O O (v:=.agg [.bool false,.nil,.nil]) O ?_
  refine wk 4 λh=>?_
  exact uZ<|aO (aZ 4 O) bf dZ dT O O (v:=.agg [.bool false,.nil,.nil]) O<|aj (v:=cw 39 r1) O<|aq<|ar hrg (VW.tupL<|vl' (VW.aggL<|vZ<|vl' (VW.nilL)<|vl' (VW.nilL)<|vn)<|vZ<|vn)<|hQ _ _ h
 refine wk 5 λh=>?_
 refine am<|clZ O<|rz h λr2 r3 h=>?_
 refine wk 13 λg3 h=>?_
 refine cZ h O (λhb3 h=>?_) (λhb3 h=>?_)
 ·refine dA<|am<|bx mg cx kw kp bf (ps:=[]) O O (v:=.agg [.bool false,.nil,.nil]) O ?_
  refine wk 4 λh=>?_
  exact uZ<|aO (aZ 4 O) bf dZ dT O O (v:=.agg [.bool false,.nil,.nil]) O<|aj (v:=cw 39 r3) O<|aq<|ar hrg (VW.tupL<|vl' (VW.aggL<|vZ<|vl' (VW.nilL)<|vl' (VW.nilL)<|vn)<|vZ<|vn)<|hQ _ _ h
 refine kZ<|qZ ?_
 obtain⟨r4,hc,h⟩:=h
 obtain⟨r5,hc1,h⟩:=h
 refine Vc.drawn' mixed rg (gd [(2,pc (eL af r4)),(5,pc (af r5))]) krZ ?_
 refine wk 2 λh=>?_
 refine dC (vs:=[lE r2,eL af p]) O (vZ<|vZ<|vn) (λ_=>qb hc (λ_ hr=>⟨by rw[hr],rfl⟩)) O ?_
 refine wk 2 λh=>?_
 refine dC (vs:=[eL af r4,iZ r2.G]) O (vZ<|vZ<|vn) (λ_=>un hc1 (λ_ hr=>⟨by rw[hr],rfl⟩)) O ?_
 refine wk 3 λh=>?_
 exact uZ<|aO (aZ 4 O) bf dZ dT O O (v:=af r5) O<|aj (v:=.niface) O<|aq<|ar hrg eVw<|hQ _ _ h
end Go.Proofs.YtcmagbhiioheeaaGreatDoor
