/- Walks of functions. Conditions: none. -/
import Derived.Test.YtbnjpdocceckeaaGreatWa
import Derived.Test.YtbnjpdocceckeaaGreatK3
import Derived.Test.YtbnjpdocceckeaaGreatGgTy
import Derived.Test.YtbnjpdocceckeaaGreatGj
import Derived.Test.YtbnjpdocceckeaaGreatGd
import Derived.Test.YtbnjpdocceckeaaGreatGf
import Derived.Test.YtbnjpdocceckeaaGreatK1
set_option linter.all false
namespace Go.Proofs.YtbnjpdocceckeaaGreat
open Go.Gg Tryz
set_option maxRecDepth 100000
set_option maxHeartbeats 16000000
variable{S:St}{R:AV->St->Prop}
theorem jH{fu:Nat}:∀ {r:Int} {u:Qa Int} {order:List Int} {place:List Int} {nodes:List P'} {unique:Qa Int} {memo:Qa Int} {Ru:List P'} {Ra:Qa Int} {R8:Qa Int} {q0 k0 g0 q1 k1 g1 q2 k2 g2 q3 k3 g3 q4 k4 g4 q5 k5 g5 q6 k6 g6 q7 k7 g7 q8 k8 g8 q9 k9 g9 Rw Rx g10 R3 R4 g11 Tb Td g12 Ua Uc g13 Uv Uy g14:Nat} (K:DK [(q4,k4),(q6,k6),(Tb,Td),(Ua,Uc),(Uv,Uy),(q0,k0),(q1,k1),(q2,k2),(q3,k3),(q5,k5),(q7,k7),(q8,k8),(q9,k9),(Rw,Rx),(R3,R4)]) {Q:Qa Int->List P'->Qa Int->Qa Int->Int->Prop} {S:St} {R:AV->St->Prop} (h:a_ fu r u order place nodes unique memo Ru Ra R8 Q) (L:∀r1 r2 r3 r4 r5,∀h12,Q r1 r2 r3 r4 r5->R (iZ r5) (Qk S [(q4,k4,ay iZ (.one .i64) r1,g4),(q6,k6,.arr 3 [.agg [.sl 3 Tb Td h12 0 r2.length,.map Ua Uc g13,.map Uv Uy g14]],g6),(Tb,Td,.arr 3 (List.map aw r2),h12),(Ua,Uc,ay iZ Qu r3,g13),(Uv,Uy,ay iZ (.many [.u8,.i64,.i64]) r4,g14),(q0,k0,.arr 1 [.map q4 k4 g4],g0),(q1,k1,.arr 1 [.ptr q5 k5 g5 0 0],g1),(q2,k2,.arr 1 [.fn (.func 186) [] [.ptr q0 k0 g0 0 0,.ptr q1 k1 g1 0 0,.ptr q2 k2 g2 0 0,.ptr q3 k3 g3 0 0]],g2),(q3,k3,.arr 1 [.ptr q6 k6 g6 0 0],g3),(q5,k5,.arr 5 [.agg [.sl 1 q7 k7 g7 0 order.length,.sl 1 q8 k8 g8 0 place.length,.sl 3 q9 k9 g9 0 nodes.length,.map Rw Rx g10,.map R3 R4 g11]],g5),(q7,k7,.arr 1 (List.map iZ order),g7),(q8,k8,.arr 1 (List.map iZ place),g8),(q9,k9,.arr 3 (List.map aw nodes),g9),(Rw,Rx,ay iZ Qu unique,g10),(R3,R4,ay iZ Qu memo,g11)])),Ctr prog 186 [iZ r,.ptr q0 k0 g0 0 0,.ptr q1 k1 g1 0 0,.ptr q2 k2 g2 0 0,.ptr q3 k3 g3 0 0] (Qk S [(q4,k4,ay iZ (.one .i64) u,g4),(q6,k6,.arr 3 [.agg [.sl 3 Tb Td g12 0 Ru.length,.map Ua Uc g13,.map Uv Uy g14]],g6),(Tb,Td,.arr 3 (List.map aw Ru),g12),(Ua,Uc,ay iZ Qu Ra,g13),(Uv,Uy,ay iZ (.many [.u8,.i64,.i64]) R8,g14),(q0,k0,.arr 1 [.map q4 k4 g4],g0),(q1,k1,.arr 1 [.ptr q5 k5 g5 0 0],g1),(q2,k2,.arr 1 [.fn (.func 186) [] [.ptr q0 k0 g0 0 0,.ptr q1 k1 g1 0 0,.ptr q2 k2 g2 0 0,.ptr q3 k3 g3 0 0]],g2),(q3,k3,.arr 1 [.ptr q6 k6 g6 0 0],g3),(q5,k5,.arr 5 [.agg [.sl 1 q7 k7 g7 0 order.length,.sl 1 q8 k8 g8 0 place.length,.sl 3 q9 k9 g9 0 nodes.length,.map Rw Rx g10,.map R3 R4 g11]],g5),(q7,k7,.arr 1 (List.map iZ order),g7),(q8,k8,.arr 1 (List.map iZ place),g8),(q9,k9,.arr 3 (List.map aw nodes),g9),(Rw,Rx,ay iZ Qu unique,g10),(R3,R4,ay iZ Qu memo,g11)]) R:=by
 induction fu with
 | zero=>
  intro r u order place nodes unique memo Ru Ra R8 q0 k0 g0 q1 k1 g1 q2 k2 g2 q3 k3 g3 q4 k4 g4 q5 k5 g5 q6 k6 g6 q7 k7 g7 q8 k8 g8 q9 k9 g9 Rw Rx g10 R3 R4 g11 Tb Td g12 Ua Uc g13 Uv Uy g14 K Q S R h L;exact False.elim h
 | succ fu ih=>
 intro r u order place nodes unique memo Ru Ra R8 q0 k0 g0 q1 k1 g1 q2 k2 g2 q3 k3 g3 q4 k4 g4 q5 k5 g5 q6 k6 g6 q7 k7 g7 q8 k8 g8 q9 k9 g9 Rw Rx g10 R3 R4 g11 Tb Td g12 Ua Uc g13 Uv Uy g14 K Q S R h L;rw[a_]at h;refine ar func186 rfl ntmps186 results186 Ql (λW H=>?_);have D:=(λ{X:cd} (_:∀k,Qk S X W k=none) (h:DX X)=>h) H K;have F:=λX' e=>aJ (X':=X') e H;have A4:=ae D H 0 rfl;have A6:=ae D H 1 rfl;have Wu:=ae D H 2 rfl;have YR:=ae D H 3 rfl;have YQ:=ae D H 4 rfl;have A0:=ae D H 5 rfl;have A1:=ae D H 6 rfl;have A2:=ae D H 7 rfl;have A3:=ae D H 8 rfl;have A5:=ae D H 9 rfl;have A7:=ae D H 10 rfl;have A8:=ae D H 11 rfl;have A9:=ae D H 12 rfl;have Tt:=ae D H 13 rfl;have UK:=ae D H 14 rfl;refine wk 8 λh=>?_
 refine aj<|iS (P_ A4 D 0 O) jM kx Rz (z:=0) dg O O ?_;refine wk 12 λh=>?_
 refine cZ h O (λB h=>?_) (λB h=>?_)
 ·refine wk 9 λh G h J h=>?_;refine aj<|CV (P_ A9 D 12 O) gq dZ zg O (oT J QK) O (v:=aw (P9 nodes<|r-2)) O ?_
  refine wk 8 λg15 h=>?_;refine aj<|Qn O<|bh (ac (P_ A4 D 0 O)<|ac (P_ A6 D 1 O)<|ac (P_ Wu D 2 O)<|ac (P_ YR D 3 O)<|ac (P_ YQ D 4 O)<|ac (P_ A0 D 5 O)<|ac (P_ A1 D 6 O)<|ac (P_ A2 D 7 O)<|ac (P_ A3 D 8 O)<|ac (P_ A5 D 9 O)<|ac (P_ A7 D 10 O)<|ac (P_ A8 D 11 O)<|ac (P_ A9 D 12 O)<|ac (P_ Tt D 13 O)<|ac (P_ UK D 14 O)<|aG)<|ih (Q7 [0,1,2,3,4,5,6,7,8,9,10,11,12,13,14] K O O) h λu1 u2 u3 u4 lo g16 h=>aM (aN (aN (aN (aN (aN (ac (P_ A0 D 5 O)<|ac (P_ A1 D 6 O)<|ac (P_ A2 D 7 O)<|ac (P_ A3 D 8 O)<|ac (P_ A5 D 9 O)<|ac (P_ A7 D 10 O)<|ac (P_ A8 D 11 O)<|ac (P_ A9 D 12 O)<|ac (P_ Tt D 13 O)<|ac (P_ UK D 14 O)<|aG)<|aI YQ D 4 O O)<|aI YR D 3 O O)<|aI Wu D 2 O O)<|aI A6 D 1 O O)<|aI A4 D 0 O O)<|RJ (iZ lo) O<|nZ<|qZ ?_
  dsimp only[List.set];obtain⟨u5,u6,u7,u8,r1,C,h⟩:=h;obtain⟨u9,UU,Ut,r2,C1,h⟩:=h;obtain⟨_,C1⟩:=C1;obtain⟨UL,V4,x,C2,h⟩:=h;refine Vc.Qf mixed W (gO [(8,wc (λ_=>iZ r1) [(q0,k0),(q1,k1),(q2,k2),(q3,k3),(q5,k5),(q7,k7),(q8,k8),(q9,k9),(Rw,Rx),(R3,R4)] [(q4,k4),(q6,k6),(Tb,Td),(Ua,Uc),(Uv,Uy)] (λgm=>[(q4,k4,ay iZ (.one .i64) u5,g4),(q6,k6,.arr 3 [.agg [.sl 3 Tb Td (gm 0) 0 u6.length,.map Ua Uc g13,.map Uv Uy g14]],g6),(Tb,Td,.arr 3 (List.map aw u6),(gm 0)),(Ua,Uc,ay iZ Qu u7,g13),(Uv,Uy,ay iZ (.many [.u8,.i64,.i64]) u8,g14)])),(10,wc (λ_=>iZ r2) [] [(q6,k6),(Tb,Td),(Ua,Uc),(Uv,Uy)] (λTX=>[(q6,k6,.arr 3 [.agg [.sl 3 Tb Td (TX 0) 0 u9.length,.map Ua Uc g13,.map Uv Uy g14]],g6),(Tb,Td,.arr 3 (List.map aw u9),(TX 0)),(Ua,Uc,ay iZ Qu UU,g13),(Uv,Uy,ay iZ (.many [.u8,.i64,.i64]) Ut,g14)])),(11,wc (λ_=>iZ x) [(Uv,Uy)] [(q6,k6),(Tb,Td),(Ua,Uc)] (λU'=>[(q6,k6,.arr 3 [.agg [.sl 3 Tb Td (U' 0) 0 UL.length,.map Ua Uc g13,.map Uv Uy g14]],g6),(Tb,Td,.arr 3 (List.map aw UL),(U' 0)),(Ua,Uc,ay iZ Qu V4,g13)]))]) Ql ?_;refine wk 8 λh=>?_
  refine Th (vs:=[iZ ((P9 nodes<|r-2).D),.ptr q0 k0 g0 0 0,.ptr q1 k1 g1 0 0,.ptr q2 k2 g2 0 0,.ptr q3 k3 g3 0 0]) (V:=λ_=>iZ r1) (rd:=[(q0,k0),(q1,k1),(q2,k2),(q3,k3),(q5,k5),(q7,k7),(q8,k8),(q9,k9),(Rw,Rx),(R3,R4)]) (wk:=[(q4,k4),(q6,k6),(Tb,Td),(Ua,Uc),(Uv,Uy)]) (wr:=λgm=>[(q4,k4,ay iZ (.one .i64) u5,g4),(q6,k6,.arr 3 [.agg [.sl 3 Tb Td (gm 0) 0 u6.length,.map Ua Uc g13,.map Uv Uy g14]],g6),(Tb,Td,.arr 3 (List.map aw u6),(gm 0)),(Ua,Uc,ay iZ Qu u7,g13),(Uv,Uy,ay iZ (.many [.u8,.i64,.i64]) u8,g14)]) rfl (vZ<|vZ<|vZ<|vZ<|vZ<|vn) rfl (SL Ql<|SL Ql<|Q0 (by simp[ct,bp (aQ 0 8 K rfl rfl rfl),bp (aQ 1 8 K rfl rfl rfl),bp (aQ 2 8 K rfl rfl rfl),bp (aQ 3 8 K rfl rfl rfl),bp (aQ 4 8 K rfl rfl rfl)]) (Q0 (by simp[ct,A4,A6,Wu,YR,YQ])<|Q0 (by simp[ct,bp (aQ 0 8 K rfl rfl rfl),bp (aQ 1 8 K rfl rfl rfl),bp (aQ 2 8 K rfl rfl rfl),bp (aQ 3 8 K rfl rfl rfl),bp (aQ 4 8 K rfl rfl rfl)]) QZ)) Qy (λ_=>rfl) (λS' hA hB=>bh (ac (ag hB 0 rfl<|P_ A4 D 0 rfl)<|ac (ag hB 1 rfl<|P_ A6 D 1 rfl)<|ac (ag hB 2 rfl<|P_ Wu D 2 rfl)<|ac (ag hB 3 rfl<|P_ YR D 3 rfl)<|ac (ag hB 4 rfl<|P_ YQ D 4 rfl)<|ac (ag hA 0 rfl<|P_ A0 D 5 rfl)<|ac (ag hA 1 rfl<|P_ A1 D 6 rfl)<|ac (ag hA 2 rfl<|P_ A2 D 7 rfl)<|ac (ag hA 3 rfl<|P_ A3 D 8 rfl)<|ac (ag hA 4 rfl<|P_ A5 D 9 rfl)<|ac (ag hA 5 rfl<|P_ A7 D 10 rfl)<|ac (ag hA 6 rfl<|P_ A8 D 11 rfl)<|ac (ag hA 7 rfl<|P_ A9 D 12 rfl)<|ac (ag hA 8 rfl<|P_ Tt D 13 rfl)<|ac (ag hA 9 rfl<|P_ UK D 14 rfl)<|aG)<|ih (Q7 [0,1,2,3,4,5,6,7,8,9,10,11,12,13,14] K O O) C (λ_ _ _ _ _ h12 he=>by obtain⟨rfl,rfl,rfl,rfl,rfl⟩:=he;exact⟨λi=>[h12].getD i 0,rfl,cu (cu<|cu<|cu<|cu<|ac (ag hA 0 rfl<|P_ A0 D 5 rfl)<|ac (ag hA 1 rfl<|P_ A1 D 6 rfl)<|ac (ag hA 2 rfl<|P_ A2 D 7 rfl)<|ac (ag hA 3 rfl<|P_ A3 D 8 rfl)<|ac (ag hA 4 rfl<|P_ A5 D 9 rfl)<|ac (ag hA 5 rfl<|P_ A7 D 10 rfl)<|ac (ag hA 6 rfl<|P_ A8 D 11 rfl)<|ac (ag hA 7 rfl<|P_ A9 D 12 rfl)<|ac (ag hA 8 rfl<|P_ Tt D 13 rfl)<|ac (ag hA 9 rfl<|P_ UK D 14 rfl)<|aG)⟩)) (λgm=>?_)
  refine cg (cw (cw (cw (cw (cw (jg)<|aI YQ D 4 O O)<|aI YR D 3 O O)<|aI Wu D 2 O O)<|aI A6 D 1 O O)<|aI A4 D 0 O O) ?_;dsimp only[List.set];refine wk 1 λh=>?_
  refine Th (vs:=[.ptr q6 k6 g6 0 0,iZ r1,iZ lo]) (V:=λ_=>iZ r2) (rd:=[]) (wk:=[(q6,k6),(Tb,Td),(Ua,Uc),(Uv,Uy)]) (wr:=λTX=>[(q6,k6,.arr 3 [.agg [.sl 3 Tb Td (TX 0) 0 u9.length,.map Ua Uc g13,.map Uv Uy g14]],g6),(Tb,Td,.arr 3 (List.map aw u9),(TX 0)),(Ua,Uc,ay iZ Qu UU,g13),(Uv,Uy,ay iZ (.many [.u8,.i64,.i64]) Ut,g14)]) rfl (vZ<|vZ<|vZ<|vn) rfl (SL Ql<|SL Ql<|SL Ql<|SL Ql<|Q0 (by simp[ct,A6,Wu,YR,YQ])<|Q0 (by simp[ct,bp (aQ 1 8 K rfl rfl rfl),bp (aQ 2 8 K rfl rfl rfl),bp (aQ 3 8 K rfl rfl rfl),bp (aQ 4 8 K rfl rfl rfl)]) QZ) Qy (λ_=>rfl) (λS' hA hB=>bh (ac (ag hB 0 rfl<|P_ A6 D 1 rfl)<|ac (ag hB 1 rfl<|P_ Wu D 2 rfl)<|ac (ag hB 2 rfl<|P_ YR D 3 rfl)<|ac (ag hB 3 rfl<|P_ YQ D 4 rfl)<|aG)<|lN (Q7 [1,2,3,4] K O O) C1 (λ_ _ _ _ h1 he=>by obtain⟨rfl,rfl,rfl,rfl⟩:=he;exact⟨λi=>[h1].getD i 0,rfl,cu (cu<|cu<|cu<|aG)⟩)) (λTX=>?_)
  refine cg (cw (cw (cw (cw (jg)<|aI YQ D 4 O O)<|aI YR D 3 O O)<|aI Wu D 2 O O)<|aI A6 D 1 O O) ?_;dsimp only[List.set];refine Th (vs:=[.ptr q6 k6 g6 0 0,iZ ((P9 nodes<|r-2).T),iZ lo,iZ r2]) (V:=λ_=>iZ x) (rd:=[(Uv,Uy)]) (wk:=[(q6,k6),(Tb,Td),(Ua,Uc)]) (wr:=λU'=>[(q6,k6,.arr 3 [.agg [.sl 3 Tb Td (U' 0) 0 UL.length,.map Ua Uc g13,.map Uv Uy g14]],g6),(Tb,Td,.arr 3 (List.map aw UL),(U' 0)),(Ua,Uc,ay iZ Qu V4,g13)]) rfl (vZ<|vZ<|vZ<|vZ<|vn) rfl QZ Qy (λ_=>rfl) (λS' hA hB=>bh (ac (ag hB 0 rfl<|P_ A6 D 1 rfl)<|ac (ag hB 1 rfl<|P_ Wu D 2 rfl)<|ac (ag hB 2 rfl<|P_ YR D 3 rfl)<|ac (ag hA 0 rfl<|P_ YQ D 4 rfl)<|aG)<|fm (Q7 [1,2,3,4] K O O) C2 (λ_ _ _ h1 he=>by obtain⟨rfl,rfl,rfl⟩:=he;exact⟨λi=>[h1].getD i 0,rfl,cu (cu<|cu<|ac (ag hA 0 rfl<|P_ YQ D 4 rfl)<|aG)⟩)) (λU'=>?_)
  refine cg (cw (cw (cw (jg)<|aI YR D 3 O O)<|aI Wu D 2 O O)<|aI A6 D 1 O O) ?_;dsimp only[List.set];refine wk 6 λh=>?_
  refine aj<|fY (v:=x) (P_ A4 D 0 O) jM kx O O O (aI A4 D 0 O O) ?_;refine wk 6 λh=>?_
  exact uZ<|Qv (F _ O)<|L _ _ _ _ _ _ h
 refine wk 6 λh=>?_
 exact uZ<|Qv (F _ O)<|L _ _ _ _ _ _ h
theorem kJ{r:Int}{nodes:List P'}{unique memo:Qa Int}{order place:List Int}{Ru:List P'}{Ra R8:Qa Int}{q0 k0 g0 q1 k1 g1 q2 k2 g2 q3 k3 g3 q4 k4 g4 q5 k5 g5 q6 k6 g6 q7 k7 g7 q8 k8 g8 q9 k9 g9:Nat}(K:DK [(q0,k0),(q2,k2),(q3,k3),(q4,k4),(q1,k1),(q5,k5),(q6,k6),(q7,k7),(q8,k8),(q9,k9)]){Q:List P'->Qa Int->Qa Int->Int->Prop}(h:eu r nodes unique memo order place Ru Ra R8 Q)(L:∀r1 r2 r3 r4,∀h2,Q r1 r2 r3 r4->R (iZ r4) (Qk S [(q0,k0,.arr 3 [.agg [.sl 3 q2 k2 h2 0 r1.length,.map q3 k3 g3,.map q4 k4 g4]],g0),(q2,k2,.arr 3 (List.map aw r1),h2),(q3,k3,ay iZ Qu r2,g3),(q4,k4,ay iZ (.many [.u8,.i64,.i64]) r3,g4),(q1,k1,.arr 5 [.agg [.sl 1 q5 k5 g5 0 order.length,.sl 1 q6 k6 g6 0 place.length,.sl 3 q7 k7 g7 0 Ru.length,.map q8 k8 g8,.map q9 k9 g9]],g1),(q5,k5,.arr 1 (List.map iZ order),g5),(q6,k6,.arr 1 (List.map iZ place),g6),(q7,k7,.arr 3 (List.map aw Ru),g7),(q8,k8,ay iZ Qu Ra,g8),(q9,k9,ay iZ Qu R8,g9)])):Ctr prog 138 [.ptr q0 k0 g0 0 0,.ptr q1 k1 g1 0 0,iZ r] (Qk S [(q0,k0,.arr 3 [.agg [.sl 3 q2 k2 g2 0 nodes.length,.map q3 k3 g3,.map q4 k4 g4]],g0),(q2,k2,.arr 3 (List.map aw nodes),g2),(q3,k3,ay iZ Qu unique,g3),(q4,k4,ay iZ (.many [.u8,.i64,.i64]) memo,g4),(q1,k1,.arr 5 [.agg [.sl 1 q5 k5 g5 0 order.length,.sl 1 q6 k6 g6 0 place.length,.sl 3 q7 k7 g7 0 Ru.length,.map q8 k8 g8,.map q9 k9 g9]],g1),(q5,k5,.arr 1 (List.map iZ order),g5),(q6,k6,.arr 1 (List.map iZ place),g6),(q7,k7,.arr 3 (List.map aw Ru),g7),(q8,k8,ay iZ Qu Ra,g8),(q9,k9,ay iZ Qu R8,g9)]) R:=by
 refine ar func138 rfl ntmps138 results138 Ql (λW H=>?_);have D:=(λ{X:cd} (_:∀k,Qk S X W k=none) (h:DX X)=>h) H K;have F:=λX' e=>aJ (X':=X') e H;have A0:=ae D H 0 rfl;have A2:=ae D H 1 rfl;have A3:=ae D H 2 rfl;have A4:=ae D H 3 rfl;have A1:=ae D H 4 rfl;have A5:=ae D H 5 rfl;have A6:=ae D H 6 rfl;have A7:=ae D H 7 rfl;have A8:=ae D H 8 rfl;have A9:=ae D H 9 rfl;refine wk 8 λg10 g11 h=>?_;refine wZ W<|fx (enc:=iZ) jM kx trivial (λg12=>aj<|pM (v:=0) (aZ 9 O) jM kx O O O bm<|aj<|pM (v:=1) (aZ 9 O) jM kx O O O bm ?_)
 refine wk 10 λg13 g14 h=>?_;refine wZ W<|gS (vs:=[]) (us:=[.ptr W 7 g13 0 0,.ptr W 4 g11 0 0,.ptr W 8 g14 0 0,.ptr W 3 g10 0 0]) O O ?_
 refine wk 6 λh=>?_
 obtain⟨_,h⟩:=h;refine aj<|Qn O<|bh (ac (aZ 9 O)<|ac (P_ A0 D 0 O)<|ac (P_ A2 D 1 O)<|ac (P_ A3 D 2 O)<|ac (P_ A4 D 3 O)<|ac (aZ 7 O)<|ac (aZ 4 O)<|ac (aZ 8 O)<|ac (aZ 3 O)<|ac (P_ A1 D 4 O)<|ac (P_ A5 D 5 O)<|ac (P_ A6 D 6 O)<|ac (P_ A7 D 7 O)<|ac (P_ A8 D 8 O)<|ac (P_ A9 D 9 O)<|aG)<|jH (dV (aq (aK A0)<|aq (aK A2)<|aq (aK A3)<|aq (aK A4)<|aq (cc O)<|aq (cc O)<|aq (cc O)<|aq (cc O)<|aq (aK A1)<|aq (aK A5)<|aq (aK A6)<|aq (aK A7)<|aq (aK A8)<|aq (aK A9)<|dU)<|dV (aq (aQ 0 1 K O O O)<|aq (aQ 0 2 K O O O)<|aq (aQ 0 3 K O O O)<|aq (aK<|Ne.symm A0)<|aq (aK<|Ne.symm A0)<|aq (aK<|Ne.symm A0)<|aq (aK<|Ne.symm A0)<|aq (aQ 0 4 K O O O)<|aq (aQ 0 5 K O O O)<|aq (aQ 0 6 K O O O)<|aq (aQ 0 7 K O O O)<|aq (aQ 0 8 K O O O)<|aq (aQ 0 9 K O O O)<|dU)<|dV (aq (aQ 1 2 K O O O)<|aq (aQ 1 3 K O O O)<|aq (aK<|Ne.symm A2)<|aq (aK<|Ne.symm A2)<|aq (aK<|Ne.symm A2)<|aq (aK<|Ne.symm A2)<|aq (aQ 1 4 K O O O)<|aq (aQ 1 5 K O O O)<|aq (aQ 1 6 K O O O)<|aq (aQ 1 7 K O O O)<|aq (aQ 1 8 K O O O)<|aq (aQ 1 9 K O O O)<|dU)<|dV (aq (aQ 2 3 K O O O)<|aq (aK<|Ne.symm A3)<|aq (aK<|Ne.symm A3)<|aq (aK<|Ne.symm A3)<|aq (aK<|Ne.symm A3)<|aq (aQ 2 4 K O O O)<|aq (aQ 2 5 K O O O)<|aq (aQ 2 6 K O O O)<|aq (aQ 2 7 K O O O)<|aq (aQ 2 8 K O O O)<|aq (aQ 2 9 K O O O)<|dU)<|dV (aq (aK<|Ne.symm A4)<|aq (aK<|Ne.symm A4)<|aq (aK<|Ne.symm A4)<|aq (aK<|Ne.symm A4)<|aq (aQ 3 4 K O O O)<|aq (aQ 3 5 K O O O)<|aq (aQ 3 6 K O O O)<|aq (aQ 3 7 K O O O)<|aq (aQ 3 8 K O O O)<|aq (aQ 3 9 K O O O)<|dU)<|dV (aq (cc O)<|aq (cc O)<|aq (cc O)<|aq (aK A1)<|aq (aK A5)<|aq (aK A6)<|aq (aK A7)<|aq (aK A8)<|aq (aK A9)<|dU)<|dV (aq (cc O)<|aq (cc O)<|aq (aK A1)<|aq (aK A5)<|aq (aK A6)<|aq (aK A7)<|aq (aK A8)<|aq (aK A9)<|dU)<|dV (aq (cc O)<|aq (aK A1)<|aq (aK A5)<|aq (aK A6)<|aq (aK A7)<|aq (aK A8)<|aq (aK A9)<|dU)<|dV (aq (aK A1)<|aq (aK A5)<|aq (aK A6)<|aq (aK A7)<|aq (aK A8)<|aq (aK A9)<|dU)<|Q7 [4,5,6,7,8,9] K O O) h λu u1 u2 u3 r1 g15 h=>?_
 exact aM (aN (aN (aN (aN (aN (ac (aZ 7 O)<|ac (aZ 4 O)<|ac (aZ 8 O)<|ac (aZ 3 O)<|ac (P_ A1 D 4 O)<|ac (P_ A5 D 5 O)<|ac (P_ A6 D 6 O)<|ac (P_ A7 D 7 O)<|ac (P_ A8 D 8 O)<|ac (P_ A9 D 9 O)<|aG)<|aI A4 D 3 O O)<|aI A3 D 2 O O)<|aI A2 D 1 O O)<|aI A0 D 0 O O) bm)<|RJ (iZ r1) O<|eT<|Qv (F _ O)<|L _ _ _ _ _ h
end Go.Proofs.YtbnjpdocceckeaaGreat
namespace Go.Proofs.YtbnjpdocceckeaaGreat
open Go.Gg Tryz
set_option maxRecDepth 100000
set_option maxHeartbeats 2000000
variable{S:St}{R:AV->St->Prop}
variable{Q:List Int->Prop}{n:Int}
theorem nY(q k:Nat){S:St}{R:AV->St->Prop}(h:gZ n Q)(L:∀r1 g,Q r1->R (.sl 1 q k g 0 r1.length) (S.set q k (.arr 1 (List.map iZ r1)) g)) :Ctr prog 26 [iZ n] S R:=by
 unfold gZ at h;refine ar func26 rfl ntmps26 results26 Ql (λW H=>?_);refine wk 7 λh=>?_
 refine Qp h (λG h=>wZ W<|fk bW nC Rz (enc:=iZ) (z':=0) dg (kk:=1) O O O G (λg1=>?_))
 refine wk 10 λh=>?_
 refine Rf h (λy=>aC [(3,.sl 1 W 6 g1 0 y.2.length),(8,iZ ((Int.toNat n):Int)),(9,iZ y.1)]) (λy=>Qr S W [(6,.arr 1 (List.map iZ y.2),g1)]) (canon (fc (VW.QO QK)<|fZ<|fZ<|fn)<|sc O<|sn) (λy _ h=>?_);obtain⟨x,out⟩:=y;refine wk 5 λh=>?_
 refine cZ h O (λB h=>?_) (λB h=>?_);·exact wk 9999 trivial
 refine wk 6 λh=>?_
 refine uZ<|ah (v:=.sl 1 W 6 g1 0 out.length) O<|am ?_;show dz _ (.sl 1 W 6 g1 0 out.length) _;exact sd q k H O (λg'=>L _ g' h)
variable{u:List QB}{a b:Int}{q0 k0 g0 q1 k1 g1:Nat}
theorem pJ(K:DK [(q0,k0),(q1,k1)]){Q:Int->Prop}(h:ik a b u Q)(L:∀r1,Q r1->R (iZ r1) (Qk S [(q0,k0,.arr 1 [.sl 3 q1 k1 g1 0 u.length],g0),(q1,k1,.arr 3 (List.map dw u),g1)])) :Ctr prog 28 [iZ a,iZ b,.ptr q0 k0 g0 0 0] (Qk S [(q0,k0,.arr 1 [.sl 3 q1 k1 g1 0 u.length],g0),(q1,k1,.arr 3 (List.map dw u),g1)]) R:=by
 refine ar func28 rfl ntmps28 results28 Ql (λW H=>?_);have D:=(λ{X:cd} (_:∀k,Qk S X W k=none) (h:DX X)=>h) H K;have F:=λX' e=>aJ (X':=X') e H;have A0:=ae D H 0 rfl;have A1:=ae D H 1 rfl;refine wk 5 λh=>?_
 refine Qp h (λJ h=>Qp h (λJ1 h=>?_));obtain⟨r,C,h⟩:=h;refine Vc.Qf mixed W (gO [(8,pc (iZ r))]) Ql ?_;refine wk 2 λh=>?_
 refine dP O O<|aV Gf pB dZ O O J ?_;refine wk 3 λh=>?_
 refine dP O O<|aV Gf pB dZ O O J1 ?_;refine wk 1 λh=>?_
 refine dC (vs:=[dw (P9 u b),dw (P9 u a)]) O (vZ<|vZ<|vn) (λ_=>uU C (λ_ hr=>⟨by rw[hr],rfl⟩)) O ?_;refine wk 2 λh=>?_
 exact uZ<|Qv (F _ O)<|L _ h
variable{data:List Int}
theorem eH{q2 k2 g2:Nat}(K:DK [(q0,k0),(q1,k1),(q2,k2)])(h:cV a b data u Q)(L:∀r1,Q r1->R (.tuple []) (Qk S [(q0,k0,.arr 1 (List.map iZ r1),g0),(q1,k1,.arr 1 [.sl 3 q2 k2 g2 0 u.length],g1),(q2,k2,.arr 3 (List.map dw u),g2)])) :Ctr prog 104 [.sl 1 q0 k0 g0 0 data.length,iZ a,iZ b,.fn (.func 28) [] [.ptr q1 k1 g1 0 0]] (Qk S [(q0,k0,.arr 1 (List.map iZ data),g0),(q1,k1,.arr 1 [.sl 3 q2 k2 g2 0 u.length],g1),(q2,k2,.arr 3 (List.map dw u),g2)]) R:=by
 refine ar func104 rfl ntmps104 results104 Ql (λW H=>?_);have D:=(λ{X:cd} (_:∀k,Qk S X W k=none) (h:DX X)=>h) H K;have F:=λX' e=>aJ (X':=X') e H;have A0:=ae D H 0 rfl;have A1:=ae D H 1 rfl;have A2:=ae D H 2 rfl;refine wk 7 λh G h=>?_;refine Rf h (λy=>aC [(0,.sl 1 q0 k0 g0 0 y.2.length),(1,iZ a),(2,iZ b),(3,.fn (.func 28) [] [.ptr q1 k1 g1 0 0]),(8,iZ y.1)]) (λy=>Qr (Qk S [(q0,k0,.arr 1 (List.map iZ y.2),g0),(q1,k1,.arr 1 [.sl 3 q2 k2 g2 0 u.length],g1),(q2,k2,.arr 3 (List.map dw u),g2)]) W []) Rj (λy _ h=>?_);obtain⟨i,QA⟩:=y;refine wk 7 λh=>?_
 refine cZ h O (λB h=>?_) (λB h=>?_)
 ·refine wk 9 λh=>?_
  refine Rf h (λy=>aC [(0,.sl 1 q0 k0 g0 0 y.2.length),(1,iZ a),(2,iZ b),(3,.fn (.func 28) [] [.ptr q1 k1 g1 0 0]),(8,iZ i),(9,iZ y.1)]) (λy=>Qr (Qk S [(q0,k0,.arr 1 (List.map iZ y.2),g0),(q1,k1,.arr 1 [.sl 3 q2 k2 g2 0 u.length],g1),(q2,k2,.arr 3 (List.map dw u),g2)]) W []) Rj (λy _ h=>?_);obtain⟨j,Qx⟩:=y;refine qZ<|qZ<|Wc h (λB1 h=>?_) (λB1 h=>?_)
  ·refine Qp h (λJ h=>Qp h (λG1 h=>Qp h (λJ1 h=>?_)));obtain⟨r,C,h⟩:=h;refine Vc.Qf mixed W (gO [(14,wc (λ_=>iZ r) [(q1,k1),(q2,k2)] [] (λ_=>[]))]) Ql ?_;refine wk 11 λh=>?_
   refine dP O O<|aV bW Se dZ O O J ?_;refine wk 7 λh=>?_
   refine dP O O<|cL O O G1<|Zs O O O<|dP O O<|aV bW Se dZ O O J1 ?_;refine wk 3 λh=>?_
   refine Th (vs:=[iZ (P9 Qx j),iZ (P9 Qx<|j-1),.ptr q1 k1 g1 0 0]) (V:=λ_=>iZ r) (rd:=[(q1,k1),(q2,k2)]) (wk:=[]) (wr:=λ_=>[]) rfl (vZ<|vZ<|vZ<|vn) rfl QZ Qy (λ_=>rfl) (λS' hA hB=>bh (ac (ag hA 0 rfl<|P_ A1 D 1 rfl)<|ac (ag hA 1 rfl<|P_ A2 D 2 rfl)<|aG)<|pJ (Q7 [1,2] K O O) C (λ_ he=>by obtain rfl:=he;exact⟨λi=>([]:List Nat).getD i 0,rfl,ac (ag hA 0 rfl<|P_ A1 D 1 rfl) (ac (ag hA 1 rfl<|P_ A2 D 2 rfl)<|aG)⟩)) (λ_=>cg (jg) ?_);refine wk 4 λh=>?_
   refine cZ h O (λB2 h=>?_) (λB2 h=>?_)
   ·refine kZ<|qZ<|bZ<|Qp h (λG2 h=>Qp h (λG3 h=>Qp h (λJ2 h=>Qp h (λJ3 h=>Qp h (λJ4 h=>Qp h (λJ5 h=>Vc.Qf mixed W (λ_=>eo) Ql ?_))))));refine wk 4 λh=>?_
    refine dP O O<|cL O O G2 ?_;refine wk 2 λh=>?_
    refine dP O O<|cL O O G3<|dP O O<|aV bW Se dZ O O J2 ?_;refine wk 3 λh=>?_
    refine dP O O<|aV bW Se dZ O O J3 ?_;refine wk 1 λh=>?_
    refine dP O O<|aV bW Se dZ O O J4 ?_;refine wk 1 λh=>?_
    refine dP O O<|aV bW Se dZ O O J5 ?_;exact wk 9999 trivial
   exact wk 9999 trivial
  refine Vc.Qf mixed W (λ_=>eo) Ql ?_;refine wk 18 λh=>?_
  refine Yo O O ?_;exact wk 9999 trivial
 exact VB<|Sy (F _ O)<|L _ h
theorem kT{q2 k2 g2:Nat}(K:DK [(q0,k0),(q1,k1),(q2,k2)])(h:gK n data u Q)(L:∀r1,Q r1->R (.tuple []) (Qk S [(q0,k0,.arr 1 (List.map iZ r1),g0),(q1,k1,.arr 1 [.sl 3 q2 k2 g2 0 u.length],g1),(q2,k2,.arr 3 (List.map dw u),g2)])) :Ctr prog 58 [.sl 1 q0 k0 g0 0 data.length,iZ n,.fn (.func 28) [] [.ptr q1 k1 g1 0 0]] (Qk S [(q0,k0,.arr 1 (List.map iZ data),g0),(q1,k1,.arr 1 [.sl 3 q2 k2 g2 0 u.length],g1),(q2,k2,.arr 3 (List.map dw u),g2)]) R:=by
 refine ar func58 rfl ntmps58 results58 Ql (λW H=>?_);have D:=(λ{X:cd} (_:∀k,Qk S X W k=none) (h:DX X)=>h) H K;have F:=λX' e=>aJ (X':=X') e H;have A0:=ae D H 0 rfl;have A1:=ae D H 1 rfl;have A2:=ae D H 2 rfl;refine wk 12 λh=>?_
 refine Rf h (λy=>aC [(0,.sl 1 q0 k0 g0 0 y.2.2.length),(1,iZ n),(2,.fn (.func 28) [] [.ptr q1 k1 g1 0 0]),(6,iZ 20),(7,iZ y.1),(8,iZ y.2.1)]) (λy=>Qr (Qk S [(q0,k0,.arr 1 (List.map iZ y.2.2),g0),(q1,k1,.arr 1 [.sl 3 q2 k2 g2 0 u.length],g1),(q2,k2,.arr 3 (List.map dw u),g2)]) W []) Rj (λy _ h=>?_);obtain⟨a,b,QA⟩:=y;refine wk 7 λh=>?_
 refine cZ h O (λB h=>?_) (λB h=>?_)
 ·refine wk 8 λh=>?_
  refine aj<|Qn O<|bh (ac (P_ A0 D 0 O)<|ac (P_ A1 D 1 O)<|ac (P_ A2 D 2 O)<|aG)<|eH (Q7 [0,1,2] K O O) h λQx h=>aM (aN (ac (P_ A1 D 1 O)<|ac (P_ A2 D 2 O)<|aG)<|aI A0 D 0 O O)<|Qp h (λhl h=>?_)
  exact wk 9999 trivial
 refine wk 7 λh=>?_
 refine aj<|Qn O<|bh (ac (P_ A0 D 0 O)<|ac (P_ A1 D 1 O)<|ac (P_ A2 D 2 O)<|aG)<|eH (Q7 [0,1,2] K O O) h λRc h=>aM (aN (ac (P_ A1 D 1 O)<|ac (P_ A2 D 2 O)<|aG)<|aI A0 D 0 O O)<|Qp h (λTk h=>nZ<|bZ<|Rf h (λy=>aC [(0,.sl 1 q0 k0 g0 0 QA.length),(1,iZ n),(2,.fn (.func 28) [] [.ptr q1 k1 g1 0 0]),(6,iZ y)]) (λy=>Qr (Qk S [(q0,k0,.arr 1 (List.map iZ Rc),g0),(q1,k1,.arr 1 [.sl 3 q2 k2 g2 0 u.length],g1),(q2,k2,.arr 3 (List.map dw u),g2)]) W []) Rj (λQi _ h=>?_))
 refine wk 7 λh=>?_
 refine cZ h O (λB1 h=>?_) (λB1 h=>?_)
 ·refine wk 11 λh G1 h=>?_;refine Rf h (λy=>aC [(0,.sl 1 q0 k0 g0 0 QA.length),(1,iZ n),(2,.fn (.func 28) [] [.ptr q1 k1 g1 0 0]),(6,iZ Qi),(7,iZ 0),(8,iZ (2*Qi))]) (λy=>Qr (Qk S [(q0,k0,.arr 1 (List.map iZ Rc),g0),(q1,k1,.arr 1 [.sl 3 q2 k2 g2 0 u.length],g1),(q2,k2,.arr 3 (List.map dw u),g2)]) W []) Rj (λ_ _ h=>?_);refine wk 7 λh=>?_
  refine cZ h O (λB2 h=>?_) (λB2 h=>?_);·refine wk 11 λh G2 h=>?_;exact h.elim
  refine wk 15 λh G3 h=>?_;refine cZ h O (λB3 h=>?_) (λB3 h=>?_)
  ·refine wk 6 λh=>?_
   exact h.elim
  exact wk 9999 trivial
 exact VB<|Sy (F _ O)<|L _ h
theorem iy{x:List Int}{q2 k2 g2:Nat}(K:DK [(q0,k0),(q1,k1),(q2,k2)])(h:cW x u Q)(L:∀r1,Q r1->R (.tuple []) (Qk S [(q0,k0,.arr 1 (List.map iZ r1),g0),(q1,k1,.arr 1 [.sl 3 q2 k2 g2 0 u.length],g1),(q2,k2,.arr 3 (List.map dw u),g2)])) :Ctr prog 27 [.sl 1 q0 k0 g0 0 x.length,.fn (.func 28) [] [.ptr q1 k1 g1 0 0]] (Qk S [(q0,k0,.arr 1 (List.map iZ x),g0),(q1,k1,.arr 1 [.sl 3 q2 k2 g2 0 u.length],g1),(q2,k2,.arr 3 (List.map dw u),g2)]) R:=by
 refine ar func27 rfl ntmps27 results27 Ql (λW H=>?_);have D:=(λ{X:cd} (_:∀k,Qk S X W k=none) (h:DX X)=>h) H K;have F:=λX' e=>aJ (X':=X') e H;have A0:=ae D H 0 rfl;have A1:=ae D H 1 rfl;have A2:=ae D H 2 rfl;refine wk 5 λh=>?_
 exact aj<|Qn O<|bh (ac (P_ A0 D 0 O)<|ac (P_ A1 D 1 O)<|ac (P_ A2 D 2 O)<|aG)<|kT (Q7 [0,1,2] K O O) h λx1 h=>aM (aN (ac (P_ A1 D 1 O)<|ac (P_ A2 D 2 O)<|aG)<|aI A0 D 0 O O)<|Qp h (λhl h=>nZ<|Sy (F _ O)<|L _ h)
theorem tc{f:GFormula}{Q:List Int->Option Int->Prop}(h:ly f Q)(L:∀r1 r2,Q r1 r2->R (.tuple [aF r1,bd 36 r2]) S) :Ctr prog 6 [aD f] S R:=by
 refine ar func6 rfl ntmps6 results6 Ql (λW H=>?_);refine wk 10 λg1 g2 g3 h=>?_;refine aj<|Qn O<|eP h λerr h=>?_
 refine wk 7 λh=>?_
 refine cZ h O (λB h=>?_) (λB h=>?_)
 ·refine wk 4 λh=>?_
  exact aj<|tT (aZ 3 O) HM dZ O (w:=bd 36 err) O sE0 (sE1 O) (v:=bd 36 err) O bm<|eT<|pD (aZ 2 O) JW O_ O O (v:=.nil) O<|pD (aZ 3 O) HM NA O O (v:=bd 36 err) sE2<|am<|ak H (VW.QF<|QJ (VW.QC)<|vZ<|vn)<|L _ _ h
 refine wk 9 λh G h=>?_;refine Qp h (λG1 h=>wZ W<|rU Gf O5 Pu ET (kk:=3) O O O G1 (λg4=>fh (Rm.ow (k:=25) (o':=.arr 3 (List.map dw<|bA (f.Y+(f.N.length:Int)) (⟨false,[],[]⟩:QB))) O (OW.rep<|SG.US<|vZ<|QJ (VW.QC)<|QJ (VW.QC)<|vn)) ?_));refine wk 4 λg5 h=>?_;obtain⟨r,C,h⟩:=h;refine Qp h (λJ h=>Vc.Qf mixed W (gO [(3,pc (dw r))]) Ql ?_);refine wk 3 λh=>?_
 refine dC (vs:=[iZ 1]) O (vZ<|vn) (λ_=>qE C (λ_ hr=>⟨by rw[hr],rfl⟩)) O<|dP O O<|aV Gf pB dZ O O J<|dL (E:=([],[(W,25)])) O O Qy QZ (ig (aZ 25 O) pB dZ (x':=r) (λ_=>O) O O (oT J QK) O O bm ?_);refine wk 6 λh=>?_
 refine aj<|Qn O<|iu<|nZ<|bZ ?_;obtain⟨hlr,I,h0,hI,hk⟩:=h;refine Vc.WS (σ:=(List QB)) (es0:=[(1,.ptr W 1 g1 0 0),(2,.ptr W 2 g2 0 0),(3,.ptr W 3 g3 0 0),(5,.ptr W 5 g5 0 0),(33,.fn (.func 52) [] [.Q2 (AV.cells<|eL bT f.N)])]) (λn y=>I n y) (λy=>[(1,.arr 3 [aD f],g1),(2,.arr 1 [.nil],g2),(3,.arr 1 [.Qg],g3),(5,.arr 1 [.sl 3 W 25 g4 0 y.length],g5),(25,.arr 3 (List.map dw y),g4)]) (Qt (bA (f.Y+(f.N.length:Int)) (⟨false,[],[]⟩:QB)) f.A r) (Rm.trans (Rm.ow (k:=5) (o':=.arr 1 [.sl 3 W 25 g4 0 ((Qt (bA (f.Y+(f.N.length:Int)) (⟨false,[],[]⟩:QB)) f.A r).length)]) O (OW.one<|SG.US<|QJ (VW.QO QK)<|vn)) (canon (kD<|fZ<|fn)<|mK O O O O<|sc O<|sn)) O (ij hlr) Ql h0 (λn J i x1 hj hx x h S=>?_) (λx4 h=>?_)
 ·replace h:=hI n J i x1 hj hx x h;show Vc _ _ _ _ (SR (SR (aC [(1,.ptr W 1 g1 0 0),(2,.ptr W 2 g2 0 0),(3,.ptr W 3 g3 0 0),(5,.ptr W 5 g5 0 0),(33,.fn (.func 52) [] [.Q2 (AV.cells (eL bT f.N))])]) 34 (iZ i)) 35 (bT x1)) (Qr S W [(1,.arr 3 [aD f],g1),(2,.arr 1 [.nil],g2),(3,.arr 1 [.Qg],g3),(5,.arr 1 [.sl 3 W 25 g4 0 x.length],g5),(25,.arr 3 (List.map dw x),g4)]);refine wk 8 λg6 h=>?_;refine⟨_,rfl,λS=>?_⟩
  refine wk 17 λg7 h G2 h J1 h=>?_;refine aj<|Qn O<|oR h λr1 h=>?_
  refine wk 2 λh=>?_
  refine T8 h O O (λB1 h=>?_) (λB1 h=>?_)
  ·refine wk 9 λh=>?_
   refine cZ h O (λB2 h=>?_) (λB2 h=>?_);·exact VB<|⟨x,canon (fn) (mK O O O O<|sc O<|sn),h⟩
   refine kZ<|qZ ?_;obtain⟨r2,C1,h⟩:=h;obtain⟨r3,r4,C2,h⟩:=h;refine Vc.Qf mixed W (gO [(4,pc (dw r2)),(5,pc (.tuple [dw r3,bd 36 r4]))]) Ql ?_;refine wk 4 λh=>?_
   refine dC (vs:=[iZ (x1.Z.length:Int)]) O (vZ<|vn) (λ_=>qE C1 (λ_ hr=>⟨by rw[hr],rfl⟩)) O<|dC (vs:=[dw (P9 x<|f.Y+i),dw r2]) O (vZ<|vZ<|vn) (λ_=>uT C2 (λ_ _ hr=>⟨by rw[hr.1,hr.2],rfl⟩)) O ?_;refine wk 13 λg8 h=>?_
   refine cZ h O (λB3 h=>?_) (λB3 h=>?_)
   ·refine wk 4 λh=>?_
    exact aj<|tT (aZ 3 O) HM dZ O (w:=bd 36 r4) O sE0 (sE1 O) (v:=bd 36 r4) O bm<|nZ<|uZ h.elim
   refine wk 9 λh=>?_
   refine Rf h (λy=>aC [(1,.ptr W 1 g1 0 0),(2,.ptr W 2 g2 0 0),(3,.ptr W 3 g3 0 0),(5,.ptr W 5 g5 0 0),(9,.ptr W 9 g8 0 0),(33,.fn (.func 52) [] [.Q2 (AV.cells<|eL bT f.N)]),(65,aF x1.Z),(66,iZ (x1.Z.length:Int)),(67,iZ y.1)]) (λy=>Qr S W [(1,.arr 3 [aD f],g1),(2,.arr 1 [.nil],g2),(3,.arr 1 [.Qg],g3),(5,.arr 1 [.sl 3 W 25 g4 0 y.2.length],g5),(9,.arr 3 [dw r3],g8),(25,.arr 3 (List.map dw y.2),g4)]) Rj (λy _ h=>?_);obtain⟨x2,x3⟩:=y;refine wk 5 λh=>?_
   refine cZ h O (λB4 h=>?_) (λB4 h=>?_)
   ·refine wk 9 λh G3 h=>?_;refine Qp h (λJ2 h=>?_);obtain⟨r5,C3,h⟩:=h;refine Qp h (λJ3 h=>Vc.Qf mixed W (gO [(7,pc (dw r5))]) Ql ?_);refine wk 4 λh=>?_
    refine dP O O<|aV Gf pB dZ O O J2 ?_;refine wk 2 λh=>?_
    refine dC (vs:=[dw (P9 x3<|P9 x1.Z x2),dw r3]) O (vZ<|vZ<|vn) (λ_=>pF C3 (λ_ hr=>⟨by rw[hr],rfl⟩)) O<|dP O O<|aV Gf pB dZ O O J3<|dL (E:=([],[(W,25)])) O O Qy QZ (ig (aZ 25 O) pB dZ (x':=r5) (λ_=>O) O O (oT J3 QK) O O bm ?_);refine wk 5 λh G4 h=>?_
    exact⟨((x2+1),(Qt x3 (P9 x1.Z x2) r5)),(Rm.trans (Rm.ow (k:=5) (o':=.arr 1 [.sl 3 W 25 g4 0 ((Qt x3 (P9 x1.Z x2) r5).length)]) O (OW.one<|SG.US<|QJ (VW.QO QK)<|vn)) (canon (kD<|kD<|fZ<|fn)<|mK O O O O<|sc O<|sc O<|sn)),h⟩
   exact VB<|⟨x3,canon (fn) (mK O O O O<|sc O<|sn),h⟩
  refine wk 5 λh=>?_
  exact U_ O O<|VB<|⟨x,canon (fn) (mK O O O O<|sc O<|sn),h⟩
 replace h:=hk x4 h;show Vc _ _ _ _ (aC [(1,.ptr W 1 g1 0 0),(2,.ptr W 2 g2 0 0),(3,.ptr W 3 g3 0 0),(5,.ptr W 5 g5 0 0),(33,.fn (.func 52) [] [.Q2 (AV.cells (eL bT f.N))])]) (Qr S W [(1,.arr 3 [aD f],g1),(2,.arr 1 [.nil],g2),(3,.arr 1 [.Qg],g3),(5,.arr 1 [.sl 3 W 25 g4 0 x4.length],g5),(25,.arr 3 (List.map dw x4),g4)]);refine wk 4 λh=>?_
 refine aj<|Qn O<|nY W 83 h λout g9 h=>aM bm ?_
 refine wk 5 λh=>?_
 refine wZ W<|gS (vs:=[]) (us:=[.ptr W 5 g5 0 0]) O O<|aj<|Qn O<|bh (ac (aZ 83 O)<|ac (aZ 5 O)<|ac (aZ 25 O)<|aG)<|iy Sk h λRe h=>aM (aN (ac (aZ 5 O)<|ac (aZ 25 O)<|aG) bm)<|Qp h (λhl h=>?_)
 refine wk 7 λh=>?_
 exact uZ<|pD (aZ 2 O) JW O_ O O (v:=.sl 1 W 83 g9 0 out.length) O<|pD (aZ 3 O) HM NA O O (v:=.Qg) O<|am<|aX (k:=83) (xs:=List.map iZ Re) O (v':=.tuple [aF Re,.Qg]) (VW.QF<|QJ (aR QK)<|vZ<|vn)<|ak H RE<|L _ _ h
variable{o:List Int}{vars:Int}
theorem mN{Q:Option Int->Prop}(h:ji o vars Q)(L:∀r1,Q r1->R (bd 36 r1) S) :Ctr prog 73 [aF o,iZ vars] S R:=by
 refine ar func73 rfl ntmps73 results73 Ql (λW H=>?_);refine wk 6 λh=>?_
 refine Uz h (λy=>aC [(0,aF o),(1,iZ vars),(8,.bool y)]) (λy=>Qr S W []) (λx h=>?_) (λ_ h=>?_)
 ·refine cZ h O (λB h=>?_) (λB h=>?_)
  ·refine wk 5 λh=>?_
   exact uZ<|Qv H<|L _ h
  refine wk 8 λh=>?_
  refine cZ h O (λB1 h=>?_) (λB1 h=>?_)
  ·refine wk 5 λh=>?_
   exact uZ<|Qv H<|L _ h
  refine wk 4 λh=>?_
  refine Qp h (λG h=>wZ W<|fk oP Dq Ww (enc:=AV.bool) (z':=false) tA (kk:=1) O O O G (λg1=>?_))
  refine wk 10 λh=>?_
  refine SB h g1 (λy=>aC [(1,iZ vars),(5,.sl 1 W 23 y.2 0 y.1.2.length),(24,aF o),(25,iZ (o.length:Int)),(26,iZ y.1.1)]) (λy=>Qr S W [(23,.arr 1 (List.map AV.bool y.1.2),y.2)]) (canon (fZ<|fc (VW.QO QK)<|fZ<|fZ<|fZ<|fn)<|sc O<|sn) (λy _ h=>?_);obtain⟨⟨x1,seen⟩,g2⟩:=y;refine wk 5 λh=>?_
  refine cZ h O (λB2 h=>?_) (λB2 h=>?_)
  ·refine wk 10 λh G1 h=>?_;refine Ud (γ:=Nat) h (λy=>aC [(1,iZ vars),(5,.sl 1 W 23 y.2 0 seen.length),(7,iZ (P9 o x1)),(24,aF o),(25,iZ (o.length:Int)),(26,iZ x1),(36,.bool y.1)]) (λy=>Qr S W [(23,.arr 1 (List.map AV.bool seen),y.2)]) (λy h=>?_) (λ_ h=>?_)
   ·obtain⟨x2,g3⟩:=y;refine cZ h O (λB3 h=>?_) (λB3 h=>?_)
    ·refine wk 5 λh=>?_
     exact uZ<|Qv H<|L _ h
    refine wk 9 λh J h=>?_;refine cZ h O (λB4 h=>?_) (λB4 h=>?_)
    ·refine wk 5 λh=>?_
     exact uZ<|Qv H<|L _ h
    exact wk 9999 trivial
   exact wk 9999 trivial
  refine wk 5 λh=>?_
  exact uZ<|Qv H<|L _ h
 exact wk 9999 trivial
theorem uX(h:nX o Q)(L:∀r1,Q r1->R (aF r1) S) :Ctr prog 221 [aF o] S R:=by
 refine ar func221 rfl ntmps221 results221 Ql (λW H=>?_);refine wk 8 λh=>?_
 refine Qp h (λG h=>wZ W<|fk bW nC Rz (enc:=iZ) (z':=0) dg (kk:=1) O O O G (λg1=>?_))
 refine wk 10 λh=>?_
 refine Rf h (λy=>aC [(3,.sl 1 W 8 g1 0 y.2.length),(9,aF o),(10,iZ (o.length:Int)),(11,iZ y.1)]) (λy=>Qr S W [(8,.arr 1 (List.map iZ y.2),g1)]) (canon (fc (VW.QO QK)<|fZ<|fZ<|fZ<|fn)<|sc O<|sn) (λy _ h=>?_);obtain⟨x,out⟩:=y;refine wk 5 λh=>?_
 refine cZ h O (λB h=>?_) (λB h=>?_);·exact wk 9999 trivial
 refine wk 6 λh=>?_
 exact uZ<|ah (v:=.sl 1 W 8 g1 0 out.length) O<|am<|aX (k:=8) (xs:=List.map iZ out) O (v':=aF out) (aR O)<|Tl H<|L _ h
theorem sq{Q:List Int->Option Int->Prop}(h:kn o Q)(L:∀r1 r2,Q r1 r2->R (.tuple [aF r1,bd 36 r2]) S) :Ctr prog 207 [aF o] S R:=by
 refine ar func207 rfl ntmps207 results207 Ql (λW H=>?_);refine wk 11 λh=>?_
 refine aj<|Qn O<|mN h λerr h=>?_
 refine wk 7 λh=>?_
 refine cZ h O (λB h=>?_) (λB h=>?_)
 ·refine wk 6 λh=>?_
  exact uZ<|ah (v:=.nil) O<|ah (v:=bd 36 err) O<|am<|ak H (VW.QF<|QJ (VW.QC)<|vZ<|vn)<|L _ _ h
 refine wk 4 λh=>?_
 refine aj<|Qn O<|uX h λr h=>?_
 refine wk 3 λh=>?_
 exact uZ<|ah (v:=aF r) O<|ah (v:=.Qg) O<|am<|ak H RE<|L _ _ h
theorem tR{Q:List Int->Option Int->Prop}(h:mM vars Q)(L:∀r1 r2,Q r1 r2->R (.tuple [aF r1,bd 36 r2]) S) :Ctr prog 182 [iZ vars] S R:=by
 refine ar func182 rfl ntmps182 results182 Ql (λW H=>?_);refine wk 6 λh=>?_
 refine Uz h (λy=>aC [(0,iZ vars),(9,.bool y)]) (λy=>Qr S W []) (λx h=>?_) (λ_ h=>?_)
 ·refine cZ h O (λB h=>?_) (λB h=>?_)
  ·refine wk 6 λh=>?_
   exact uZ<|ah (v:=.nil) O<|ah (v:=.iface 36 (iZ 3)) O<|am<|ak H (VW.QF<|QJ (VW.QC)<|vZ<|vn)<|L _ _ h
  refine wk 4 λh=>?_
  refine aj<|Qn O<|nY W 12 h λr g1 h=>aM bm ?_
  refine wk 3 λh=>?_
  exact uZ<|ah (v:=.sl 1 W 12 g1 0 r.length) O<|ah (v:=.Qg) O<|am<|aX (k:=12) (xs:=List.map iZ r) O (v':=.tuple [aF r,.Qg]) (VW.QF<|QJ (aR O)<|vZ<|vn)<|ak H RE<|L _ _ h
 exact wk 9999 trivial
end Go.Proofs.YtbnjpdocceckeaaGreat
namespace Go.Proofs.YtbnjpdocceckeaaGreat
open Go.Gg Tryz
set_option maxRecDepth 100000
set_option maxHeartbeats 2000000
variable{S:St}{R:AV->St->Prop}
variable{Q:List P'->Qa Int->Qa Int->Int->Prop}{nodes:List P'}{unique memo:Qa Int}{order place refs:List Int}{q0 k0 g0 q1 k1 g1 q2 k2 g2 q3 k3 g3 q4 k4 g4 q5 k5 g5:Nat}
theorem sv{k6:Int}(K:DK [(q0,k0),(q3,k3),(q4,k4),(q5,k5),(q1,k1),(q2,k2)])(h:kF refs k6 order place nodes unique memo Q)(L:∀r1 r2 r3 r4,∀h3,Q r1 r2 r3 r4->R (iZ r4) (Qk S [(q0,k0,.arr 5 [.agg [.sl 1 q1 k1 g1 0 order.length,.sl 1 q2 k2 g2 0 place.length,.sl 3 q3 k3 h3 0 r1.length,.map q4 k4 g4,.map q5 k5 g5]],g0),(q3,k3,.arr 3 (List.map aw r1),h3),(q4,k4,ay iZ Qu r2,g4),(q5,k5,ay iZ Qu r3,g5),(q1,k1,.arr 1 (List.map iZ order),g1),(q2,k2,.arr 1 (List.map iZ place),g2)])) :Ctr prog 178 [.ptr q0 k0 g0 0 0,aF refs,iZ k6] (Qk S [(q0,k0,.arr 5 [.agg [.sl 1 q1 k1 g1 0 order.length,.sl 1 q2 k2 g2 0 place.length,.sl 3 q3 k3 g3 0 nodes.length,.map q4 k4 g4,.map q5 k5 g5]],g0),(q3,k3,.arr 3 (List.map aw nodes),g3),(q4,k4,ay iZ Qu unique,g4),(q5,k5,ay iZ Qu memo,g5),(q1,k1,.arr 1 (List.map iZ order),g1),(q2,k2,.arr 1 (List.map iZ place),g2)]) R:=by
 refine ar func178 rfl ntmps178 results178 Ql (λW H=>?_);have D:=(λ{X:cd} (_:∀k,Qk S X W k=none) (h:DX X)=>h) H K;have F:=λX' e=>aJ (X':=X') e H;have A0:=ae D H 0 rfl;have A3:=ae D H 1 rfl;have A4:=ae D H 2 rfl;have A5:=ae D H 3 rfl;have A1:=ae D H 4 rfl;have A2:=ae D H 5 rfl;refine wk 8 λh G h=>?_;refine Qp h (λG1 h=>wZ W<|fk bW nC Rz (enc:=iZ) (z':=0) dg (kk:=1) O O O G1 (λg6=>?_))
 refine wk 16 λh J h=>?_;refine SB h g3 (λy=>aC [(0,.ptr q0 k0 g0 0 0),(2,iZ k6),(7,.sl 1 W 13 g6 0 y.1.2.1.length),(16,aF refs),(17,iZ (refs.length:Int)),(18,iZ y.1.1)]) (λy=>Qr (Qk S [(q0,k0,.arr 5 [.agg [.sl 1 q1 k1 g1 0 order.length,.sl 1 q2 k2 g2 0 place.length,.sl 3 q3 k3 y.2 0 y.1.2.2.1.length,.map q4 k4 g4,.map q5 k5 g5]],g0),(q3,k3,.arr 3 (List.map aw y.1.2.2.1),y.2),(q4,k4,ay iZ Qu y.1.2.2.2.1,g4),(q5,k5,ay iZ Qu y.1.2.2.2.2,g5),(q1,k1,.arr 1 (List.map iZ order),g1),(q2,k2,.arr 1 (List.map iZ place),g2)]) W [(13,.arr 1 (List.map iZ y.1.2.1),g6)]) (canon (fZ<|fZ<|fc (VW.QO QK)<|fZ<|fZ<|fZ<|fn)<|sc O<|sn) (λy _ h=>?_);obtain⟨⟨x,need,x1,x2,x3⟩,g7⟩:=y;refine wk 5 λh=>?_
 refine cZ h O (λB h=>?_) (λB h=>?_)
 ·refine wk 15 λh G2 h=>?_;refine SB h g7 (λy=>aC [(0,.ptr q0 k0 g0 0 0),(2,iZ k6),(7,.sl 1 W 13 g6 0 y.1.2.1.length),(9,iZ (P9 refs x)),(10,iZ y.1.1),(16,aF refs),(17,iZ (refs.length:Int)),(18,iZ x)]) (λy=>Qr (Qk S [(q0,k0,.arr 5 [.agg [.sl 1 q1 k1 g1 0 order.length,.sl 1 q2 k2 g2 0 place.length,.sl 3 q3 k3 y.2 0 y.1.2.2.1.length,.map q4 k4 g4,.map q5 k5 g5]],g0),(q3,k3,.arr 3 (List.map aw y.1.2.2.1),y.2),(q4,k4,ay iZ Qu y.1.2.2.2.1,g4),(q5,k5,ay iZ Qu y.1.2.2.2.2,g5),(q1,k1,.arr 1 (List.map iZ order),g1),(q2,k2,.arr 1 (List.map iZ place),g2)]) W [(13,.arr 1 (List.map iZ y.1.2.1),g6)]) Rj (λy _ h=>?_);obtain⟨⟨j,Rb,x4,x5,x6⟩,g8⟩:=y;refine wk 6 λh=>?_
  refine cZ h O (λB1 h=>?_) (λB1 h=>?_)
  ·refine kZ<|qZ<|bZ<|Qp h (λG3 h=>Qp h (λJ1 h=>Qp h (λJ2 h=>?_)));obtain⟨u,u1,u2,r,C,h⟩:=h;obtain⟨_,C⟩:=C;refine Qp h (λJ3 h=>Vc.Qf mixed W (gO [(13,wc (λ_=>iZ r) [(q1,k1),(q2,k2)] [(q0,k0),(q3,k3),(q4,k4),(q5,k5)] (λgm=>[(q0,k0,.arr 5 [.agg [.sl 1 q1 k1 g1 0 order.length,.sl 1 q2 k2 g2 0 place.length,.sl 3 q3 k3 (gm 0) 0 u.length,.map q4 k4 g4,.map q5 k5 g5]],g0),(q3,k3,.arr 3 (List.map aw u),(gm 0)),(q4,k4,ay iZ Qu u1,g4),(q5,k5,ay iZ Qu u2,g5)]))]) Ql ?_);refine wk 6 λh=>?_
   refine dP O O<|cL O O G3<|dP O O<|aV bW Se dZ O O J1 ?_;refine wk 3 λh=>?_
   refine dP O O<|aV bW Se dZ O O J2 ?_;refine wk 1 λh=>?_
   refine Th (vs:=[.ptr q0 k0 g0 0 0,iZ (P9 refs x),iZ (P9 Rb<|j-1),iZ (P9 Rb j)]) (V:=λ_=>iZ r) (rd:=[(q1,k1),(q2,k2)]) (wk:=[(q0,k0),(q3,k3),(q4,k4),(q5,k5)]) (wr:=λgm=>[(q0,k0,.arr 5 [.agg [.sl 1 q1 k1 g1 0 order.length,.sl 1 q2 k2 g2 0 place.length,.sl 3 q3 k3 (gm 0) 0 u.length,.map q4 k4 g4,.map q5 k5 g5]],g0),(q3,k3,.arr 3 (List.map aw u),(gm 0)),(q4,k4,ay iZ Qu u1,g4),(q5,k5,ay iZ Qu u2,g5)]) rfl (vZ<|vZ<|vZ<|vZ<|vn) rfl QZ Qy (λ_=>rfl) (λS' hA hB=>bh (ac (ag hB 0 rfl<|P_ A0 D 0 rfl)<|ac (ag hB 1 rfl<|P_ A3 D 1 rfl)<|ac (ag hB 2 rfl<|P_ A4 D 2 rfl)<|ac (ag hB 3 rfl<|P_ A5 D 3 rfl)<|ac (ag hA 0 rfl<|P_ A1 D 4 rfl)<|ac (ag hA 1 rfl<|P_ A2 D 5 rfl)<|aG)<|bj (Q7 [0,1,2,3,4,5] K O O) C (λ_ _ _ _ h3 he=>by obtain⟨rfl,rfl,rfl,rfl⟩:=he;exact⟨λi=>[h3].getD i 0,rfl,cu (cu<|cu<|cu<|ac (ag hA 0 rfl<|P_ A1 D 4 rfl)<|ac (ag hA 1 rfl<|P_ A2 D 5 rfl)<|aG)⟩)) (λgm=>cg (cw (cw (cw (cw (jg)<|aI A5 D 3 O O)<|aI A4 D 2 O O)<|aI A3 D 1 O O)<|aI A0 D 0 O O)<|dP O O<|aV bW Se dZ O O J3 ?_);exact wk 9999 trivial
  exact wk 9999 trivial
 refine wk 9 λh J4 h=>?_;exact uZ<|Qv (F _ O)<|L _ _ _ _ _ h
variable{first:Int}
theorem sy(K:DK [(q0,k0),(q3,k3),(q4,k4),(q5,k5),(q1,k1),(q2,k2)])(h:oV refs first order place nodes unique memo Q)(L:∀r1 r2 r3 r4,∀h3,Q r1 r2 r3 r4->R (iZ r4) (Qk S [(q0,k0,.arr 5 [.agg [.sl 1 q1 k1 g1 0 order.length,.sl 1 q2 k2 g2 0 place.length,.sl 3 q3 k3 h3 0 r1.length,.map q4 k4 g4,.map q5 k5 g5]],g0),(q3,k3,.arr 3 (List.map aw r1),h3),(q4,k4,ay iZ Qu r2,g4),(q5,k5,ay iZ Qu r3,g5),(q1,k1,.arr 1 (List.map iZ order),g1),(q2,k2,.arr 1 (List.map iZ place),g2)])) :Ctr prog 174 [aF refs,iZ first,.fn (.func 175) [.ptr q0 k0 g0 0 0] []] (Qk S [(q0,k0,.arr 5 [.agg [.sl 1 q1 k1 g1 0 order.length,.sl 1 q2 k2 g2 0 place.length,.sl 3 q3 k3 g3 0 nodes.length,.map q4 k4 g4,.map q5 k5 g5]],g0),(q3,k3,.arr 3 (List.map aw nodes),g3),(q4,k4,ay iZ Qu unique,g4),(q5,k5,ay iZ Qu memo,g5),(q1,k1,.arr 1 (List.map iZ order),g1),(q2,k2,.arr 1 (List.map iZ place),g2)]) R:=by
 refine ar func174 rfl ntmps174 results174 Ql (λW H=>?_);have D:=(λ{X:cd} (_:∀k,Qk S X W k=none) (h:DX X)=>h) H K;have F:=λX' e=>aJ (X':=X') e H;have A0:=ae D H 0 rfl;have A3:=ae D H 1 rfl;have A4:=ae D H 2 rfl;have A5:=ae D H 3 rfl;have A1:=ae D H 4 rfl;have A2:=ae D H 5 rfl;refine wk 12 λh=>?_
 refine SB h g3 (λy=>aC [(1,iZ y.1.1),(2,.fn (.func 175) [.ptr q0 k0 g0 0 0] []),(9,aF refs),(10,iZ (refs.length:Int)),(11,iZ y.1.2.1)]) (λy=>Qr (Qk S [(q0,k0,.arr 5 [.agg [.sl 1 q1 k1 g1 0 order.length,.sl 1 q2 k2 g2 0 place.length,.sl 3 q3 k3 y.2 0 y.1.2.2.1.length,.map q4 k4 g4,.map q5 k5 g5]],g0),(q3,k3,.arr 3 (List.map aw y.1.2.2.1),y.2),(q4,k4,ay iZ Qu y.1.2.2.2.1,g4),(q5,k5,ay iZ Qu y.1.2.2.2.2,g5),(q1,k1,.arr 1 (List.map iZ order),g1),(q2,k2,.arr 1 (List.map iZ place),g2)]) W []) Rj (λy _ h=>?_);obtain⟨⟨Rs,x,x1,x2,x3⟩,g6⟩:=y;refine wk 5 λh=>?_
 refine cZ h O (λB h=>?_) (λB h=>?_)
 ·refine wk 13 λh G h=>?_;refine aj<|Qn O<|bh (ac (P_ A0 D 0 O)<|ac (P_ A3 D 1 O)<|ac (P_ A4 D 2 O)<|ac (P_ A5 D 3 O)<|ac (P_ A1 D 4 O)<|ac (P_ A2 D 5 O)<|aG)<|oy (Q7 [0,1,2,3,4,5] K O O) h λu u1 u2 R6 g7 h=>aM (aN (aN (aN (aN (ac (P_ A1 D 4 O)<|ac (P_ A2 D 5 O)<|aG)<|aI A5 D 3 O O)<|aI A4 D 2 O O)<|aI A3 D 1 O O)<|aI A0 D 0 O O) ?_
  exact wk 9999 trivial
 refine wk 6 λh=>?_
 exact uZ<|Qv (F _ O)<|L _ _ _ _ _ h
theorem rF(K:DK [(q0,k0),(q3,k3),(q4,k4),(q5,k5),(q1,k1),(q2,k2)])(h:ov refs first order place nodes unique memo Q)(L:∀r1 r2 r3 r4,∀h3,Q r1 r2 r3 r4->R (iZ r4) (Qk S [(q0,k0,.arr 5 [.agg [.sl 1 q1 k1 g1 0 order.length,.sl 1 q2 k2 g2 0 place.length,.sl 3 q3 k3 h3 0 r1.length,.map q4 k4 g4,.map q5 k5 g5]],g0),(q3,k3,.arr 3 (List.map aw r1),h3),(q4,k4,ay iZ Qu r2,g4),(q5,k5,ay iZ Qu r3,g5),(q1,k1,.arr 1 (List.map iZ order),g1),(q2,k2,.arr 1 (List.map iZ place),g2)])) :Ctr prog 174 [aF refs,iZ first,.fn (.func 176) [.ptr q0 k0 g0 0 0] []] (Qk S [(q0,k0,.arr 5 [.agg [.sl 1 q1 k1 g1 0 order.length,.sl 1 q2 k2 g2 0 place.length,.sl 3 q3 k3 g3 0 nodes.length,.map q4 k4 g4,.map q5 k5 g5]],g0),(q3,k3,.arr 3 (List.map aw nodes),g3),(q4,k4,ay iZ Qu unique,g4),(q5,k5,ay iZ Qu memo,g5),(q1,k1,.arr 1 (List.map iZ order),g1),(q2,k2,.arr 1 (List.map iZ place),g2)]) R:=by
 refine ar func174 rfl ntmps174 results174 Ql (λW H=>?_);have D:=(λ{X:cd} (_:∀k,Qk S X W k=none) (h:DX X)=>h) H K;have F:=λX' e=>aJ (X':=X') e H;have A0:=ae D H 0 rfl;have A3:=ae D H 1 rfl;have A4:=ae D H 2 rfl;have A5:=ae D H 3 rfl;have A1:=ae D H 4 rfl;have A2:=ae D H 5 rfl;refine wk 12 λh=>?_
 refine SB h g3 (λy=>aC [(1,iZ y.1.1),(2,.fn (.func 176) [.ptr q0 k0 g0 0 0] []),(9,aF refs),(10,iZ (refs.length:Int)),(11,iZ y.1.2.1)]) (λy=>Qr (Qk S [(q0,k0,.arr 5 [.agg [.sl 1 q1 k1 g1 0 order.length,.sl 1 q2 k2 g2 0 place.length,.sl 3 q3 k3 y.2 0 y.1.2.2.1.length,.map q4 k4 g4,.map q5 k5 g5]],g0),(q3,k3,.arr 3 (List.map aw y.1.2.2.1),y.2),(q4,k4,ay iZ Qu y.1.2.2.2.1,g4),(q5,k5,ay iZ Qu y.1.2.2.2.2,g5),(q1,k1,.arr 1 (List.map iZ order),g1),(q2,k2,.arr 1 (List.map iZ place),g2)]) W []) Rj (λy _ h=>?_);obtain⟨⟨Rs,x,x1,x2,x3⟩,g6⟩:=y;refine wk 5 λh=>?_
 refine cZ h O (λB h=>?_) (λB h=>?_)
 ·refine wk 13 λh G h=>?_;refine aj<|Qn O<|bh (ac (P_ A0 D 0 O)<|ac (P_ A3 D 1 O)<|ac (P_ A4 D 2 O)<|ac (P_ A5 D 3 O)<|ac (P_ A1 D 4 O)<|ac (P_ A2 D 5 O)<|aG)<|oH (Q7 [0,1,2,3,4,5] K O O) h λu u1 u2 R6 g7 h=>aM (aN (aN (aN (aN (ac (P_ A1 D 4 O)<|ac (P_ A2 D 5 O)<|aG)<|aI A5 D 3 O O)<|aI A4 D 2 O O)<|aI A3 D 1 O O)<|aI A0 D 0 O O) ?_
  exact wk 9999 trivial
 refine wk 6 λh=>?_
 exact uZ<|Qv (F _ O)<|L _ _ _ _ _ h
theorem rE(K:DK [(q0,k0),(q3,k3),(q4,k4),(q5,k5),(q1,k1),(q2,k2)])(h:ou refs first order place nodes unique memo Q)(L:∀r1 r2 r3 r4,∀h3,Q r1 r2 r3 r4->R (iZ r4) (Qk S [(q0,k0,.arr 5 [.agg [.sl 1 q1 k1 g1 0 order.length,.sl 1 q2 k2 g2 0 place.length,.sl 3 q3 k3 h3 0 r1.length,.map q4 k4 g4,.map q5 k5 g5]],g0),(q3,k3,.arr 3 (List.map aw r1),h3),(q4,k4,ay iZ Qu r2,g4),(q5,k5,ay iZ Qu r3,g5),(q1,k1,.arr 1 (List.map iZ order),g1),(q2,k2,.arr 1 (List.map iZ place),g2)])) :Ctr prog 174 [aF refs,iZ first,.fn (.func 177) [.ptr q0 k0 g0 0 0] []] (Qk S [(q0,k0,.arr 5 [.agg [.sl 1 q1 k1 g1 0 order.length,.sl 1 q2 k2 g2 0 place.length,.sl 3 q3 k3 g3 0 nodes.length,.map q4 k4 g4,.map q5 k5 g5]],g0),(q3,k3,.arr 3 (List.map aw nodes),g3),(q4,k4,ay iZ Qu unique,g4),(q5,k5,ay iZ Qu memo,g5),(q1,k1,.arr 1 (List.map iZ order),g1),(q2,k2,.arr 1 (List.map iZ place),g2)]) R:=by
 refine ar func174 rfl ntmps174 results174 Ql (λW H=>?_);have D:=(λ{X:cd} (_:∀k,Qk S X W k=none) (h:DX X)=>h) H K;have F:=λX' e=>aJ (X':=X') e H;have A0:=ae D H 0 rfl;have A3:=ae D H 1 rfl;have A4:=ae D H 2 rfl;have A5:=ae D H 3 rfl;have A1:=ae D H 4 rfl;have A2:=ae D H 5 rfl;refine wk 12 λh=>?_
 refine SB h g3 (λy=>aC [(1,iZ y.1.1),(2,.fn (.func 177) [.ptr q0 k0 g0 0 0] []),(9,aF refs),(10,iZ (refs.length:Int)),(11,iZ y.1.2.1)]) (λy=>Qr (Qk S [(q0,k0,.arr 5 [.agg [.sl 1 q1 k1 g1 0 order.length,.sl 1 q2 k2 g2 0 place.length,.sl 3 q3 k3 y.2 0 y.1.2.2.1.length,.map q4 k4 g4,.map q5 k5 g5]],g0),(q3,k3,.arr 3 (List.map aw y.1.2.2.1),y.2),(q4,k4,ay iZ Qu y.1.2.2.2.1,g4),(q5,k5,ay iZ Qu y.1.2.2.2.2,g5),(q1,k1,.arr 1 (List.map iZ order),g1),(q2,k2,.arr 1 (List.map iZ place),g2)]) W []) Rj (λy _ h=>?_);obtain⟨⟨Rs,x,x1,x2,x3⟩,g6⟩:=y;refine wk 5 λh=>?_
 refine cZ h O (λB h=>?_) (λB h=>?_)
 ·refine wk 13 λh G h=>?_;refine aj<|Qn O<|bh (ac (P_ A0 D 0 O)<|ac (P_ A3 D 1 O)<|ac (P_ A4 D 2 O)<|ac (P_ A5 D 3 O)<|ac (P_ A1 D 4 O)<|ac (P_ A2 D 5 O)<|aG)<|ox (Q7 [0,1,2,3,4,5] K O O) h λu u1 u2 R6 g7 h=>aM (aN (aN (aN (aN (ac (P_ A1 D 4 O)<|ac (P_ A2 D 5 O)<|aG)<|aI A5 D 3 O O)<|aI A4 D 2 O O)<|aI A3 D 1 O O)<|aI A0 D 0 O O) ?_
  exact wk 9999 trivial
 refine wk 6 λh=>?_
 exact uZ<|Qv (F _ O)<|L _ _ _ _ _ h
theorem sx{x:QN}(K:DK [(q0,k0),(q3,k3),(q4,k4),(q5,k5),(q1,k1),(q2,k2)])(h:io x refs order place nodes unique memo Q)(L:∀r1 r2 r3 r4,∀h3,Q r1 r2 r3 r4->R (iZ r4) (Qk S [(q0,k0,.arr 5 [.agg [.sl 1 q1 k1 g1 0 order.length,.sl 1 q2 k2 g2 0 place.length,.sl 3 q3 k3 h3 0 r1.length,.map q4 k4 g4,.map q5 k5 g5]],g0),(q3,k3,.arr 3 (List.map aw r1),h3),(q4,k4,ay iZ Qu r2,g4),(q5,k5,ay iZ Qu r3,g5),(q1,k1,.arr 1 (List.map iZ order),g1),(q2,k2,.arr 1 (List.map iZ place),g2)])) :Ctr prog 132 [.ptr q0 k0 g0 0 0,bT x,aF refs] (Qk S [(q0,k0,.arr 5 [.agg [.sl 1 q1 k1 g1 0 order.length,.sl 1 q2 k2 g2 0 place.length,.sl 3 q3 k3 g3 0 nodes.length,.map q4 k4 g4,.map q5 k5 g5]],g0),(q3,k3,.arr 3 (List.map aw nodes),g3),(q4,k4,ay iZ Qu unique,g4),(q5,k5,ay iZ Qu memo,g5),(q1,k1,.arr 1 (List.map iZ order),g1),(q2,k2,.arr 1 (List.map iZ place),g2)]) R:=by
 refine ar func132 rfl ntmps132 results132 Ql (λW H=>?_);have D:=(λ{X:cd} (_:∀k,Qk S X W k=none) (h:DX X)=>h) H K;have F:=λX' e=>aJ (X':=X') e H;have A0:=ae D H 0 rfl;have A3:=ae D H 1 rfl;have A4:=ae D H 2 rfl;have A5:=ae D H 3 rfl;have A1:=ae D H 4 rfl;have A2:=ae D H 5 rfl;refine wk 17 λg6 h=>?_;refine cZ h O (λB h=>?_) (λB h=>?_)
 ·refine wk 6 λh=>?_
  exact uZ<|Qv (F _ O)<|L _ _ _ _ _ h
 refine wk 5 λh=>?_
 refine cZ h O (λB1 h=>?_) (λB1 h=>?_);·refine wk 6 λh G h=>?_;exact aj<|Qn O<|bh (ac (P_ A0 D 0 O)<|ac (P_ A3 D 1 O)<|ac (P_ A4 D 2 O)<|ac (P_ A5 D 3 O)<|ac (P_ A1 D 4 O)<|ac (P_ A2 D 5 O)<|aG)<|iI (Q7 [0,1,2,3,4,5] K O O) h λu u1 u2 r g7 h=>aM (aN (aN (aN (aN (ac (P_ A1 D 4 O)<|ac (P_ A2 D 5 O)<|aG)<|aI A5 D 3 O O)<|aI A4 D 2 O O)<|aI A3 D 1 O O)<|aI A0 D 0 O O)<|RJ (iZ r) O<|eT<|Qv (F _ O)<|L _ _ _ _ _ h
 refine wk 5 λh=>?_
 refine cZ h O (λB2 h=>?_) (λB2 h=>?_)
 ·refine wk 4 λh=>?_
  exact wZ W<|gS (vs:=[.ptr q0 k0 g0 0 0]) (us:=[]) O O<|aj<|Qn O<|bh (ac (P_ A0 D 0 O)<|ac (P_ A3 D 1 O)<|ac (P_ A4 D 2 O)<|ac (P_ A5 D 3 O)<|ac (P_ A1 D 4 O)<|ac (P_ A2 D 5 O)<|aG)<|sy (Q7 [0,1,2,3,4,5] K O O) h λu3 u4 u5 r1 g8 h=>aM (aN (aN (aN (aN (ac (P_ A1 D 4 O)<|ac (P_ A2 D 5 O)<|aG)<|aI A5 D 3 O O)<|aI A4 D 2 O O)<|aI A3 D 1 O O)<|aI A0 D 0 O O)<|RJ (iZ r1) O<|eT<|Qv (F _ O)<|L _ _ _ _ _ h
 refine wk 5 λh=>?_
 refine cZ h O (λB3 h=>?_) (λB3 h=>?_)
 ·refine wk 4 λh=>?_
  exact wZ W<|gS (vs:=[.ptr q0 k0 g0 0 0]) (us:=[]) O O<|aj<|Qn O<|bh (ac (P_ A0 D 0 O)<|ac (P_ A3 D 1 O)<|ac (P_ A4 D 2 O)<|ac (P_ A5 D 3 O)<|ac (P_ A1 D 4 O)<|ac (P_ A2 D 5 O)<|aG)<|rF (Q7 [0,1,2,3,4,5] K O O) h λu6 u7 u8 r2 g9 h=>aM (aN (aN (aN (aN (ac (P_ A1 D 4 O)<|ac (P_ A2 D 5 O)<|aG)<|aI A5 D 3 O O)<|aI A4 D 2 O O)<|aI A3 D 1 O O)<|aI A0 D 0 O O)<|RJ (iZ r2) O<|eT<|Qv (F _ O)<|L _ _ _ _ _ h
 refine wk 5 λh=>?_
 refine cZ h O (λB4 h=>?_) (λB4 h=>?_)
 ·refine wk 4 λh=>?_
  exact wZ W<|gS (vs:=[.ptr q0 k0 g0 0 0]) (us:=[]) O O<|aj<|Qn O<|bh (ac (P_ A0 D 0 O)<|ac (P_ A3 D 1 O)<|ac (P_ A4 D 2 O)<|ac (P_ A5 D 3 O)<|ac (P_ A1 D 4 O)<|ac (P_ A2 D 5 O)<|aG)<|rE (Q7 [0,1,2,3,4,5] K O O) h λu9 UU Ut r3 g10 h=>aM (aN (aN (aN (aN (ac (P_ A1 D 4 O)<|ac (P_ A2 D 5 O)<|aG)<|aI A5 D 3 O O)<|aI A4 D 2 O O)<|aI A3 D 1 O O)<|aI A0 D 0 O O)<|RJ (iZ r3) O<|eT<|Qv (F _ O)<|L _ _ _ _ _ h
 refine wk 7 λh=>?_
 exact aj<|Qn O<|bh (ac (P_ A0 D 0 O)<|ac (P_ A3 D 1 O)<|ac (P_ A4 D 2 O)<|ac (P_ A5 D 3 O)<|ac (P_ A1 D 4 O)<|ac (P_ A2 D 5 O)<|aG)<|sv (Q7 [0,1,2,3,4,5] K O O) h λUL V4 Zx r4 g11 h=>aM (aN (aN (aN (aN (ac (P_ A1 D 4 O)<|ac (P_ A2 D 5 O)<|aG)<|aI A5 D 3 O O)<|aI A4 D 2 O O)<|aI A3 D 1 O O)<|aI A0 D 0 O O)<|RJ (iZ r4) O<|eT<|Qv (F _ O)<|L _ _ _ _ _ h
theorem ur{f:GFormula}{o:List Int}{Q:Qs->Option Int->Prop}(h:jz f o Q)(L:∀r1 r2,Q r1 r2->R (.tuple [dx r1,bd 36 r2]) S) :Ctr prog 74 [aD f,aF o] S R:=by
 refine ar func74 rfl ntmps74 results74 Ql (λW H=>?_);refine wk 9 λg1 g2 h=>?_;refine aj<|Qn O<|vA h λr r1 r2 h=>?_
 refine wk 14 λh=>?_
 refine cZ h O (λB h=>?_) (λB h=>?_)
 ·refine dj<|aj<|cx Cy xy yY xE qC (ps:=[]) O O (v:=.agg [.nil,.nil,iZ 0]) O ?_;refine wk 4 λh=>?_
  exact uZ<|bn (aZ 4 O) qC dZ zh O O (v:=.agg [.nil,.nil,iZ 0]) O<|ah (v:=bd 36 r2) O<|am<|ak H (VW.QF<|QJ (VW.Sb<|QJ (VW.QC)<|QJ (VW.QC)<|vZ<|vn)<|vZ<|vn)<|L _ _ h
 refine wk 7 λh=>?_
 refine aj<|Qn O<|mN h λerr h=>?_
 refine wk 7 λh=>?_
 refine cZ h O (λB1 h=>?_) (λB1 h=>?_)
 ·refine dj<|aj<|cx Cy xy yY xE qC (ps:=[]) O O (v:=.agg [.nil,.nil,iZ 0]) O ?_;refine wk 4 λh=>?_
  exact uZ<|bn (aZ 4 O) qC dZ zh O O (v:=.agg [.nil,.nil,iZ 0]) O<|ah (v:=bd 36 err) O<|am<|ak H (VW.QF<|QJ (VW.Sb<|QJ (VW.QC)<|QJ (VW.QC)<|vZ<|vn)<|vZ<|vn)<|L _ _ h
 refine kZ<|Ud (γ:=Nat×Nat) h (λy=>aC [(1,aF o),(2,.ptr W 2 y.2.1 0 0),(4,.ptr W 4 y.2.2 0 0)]) (λy=>Qr S W [(2,.arr 3 [aD y.1],y.2.1),(4,.arr 3 [.agg [.nil,.nil,iZ 0]],y.2.2)]) (λy h=>?_) (λ_ h=>?_)
 ·obtain⟨x,⟨g3,g4⟩⟩:=y;refine dj<|Uk (aF o) O<|aj<|Qn O<|pW W 5000000 5000001 5000002 5000003 5000004 h λorder place unique memo g5 g6 g7 g8 g9 h=>aM (aN (aN (aN (aN (aN (aG) bm) bm) bm) bm) bm) ?_
  refine wk 10 λh G h=>?_;refine Qp h (λG1 h=>wZ W<|fk bW nC Rz (enc:=iZ) (z':=0) dg (kk:=1) O O O G1 (λg10=>?_))
  refine wk 10 λh=>?_
  refine Vc.TQ 5000000 2 5000001002 3 (b:=λg11=>.agg [.sl 1 W 5000001 g6 0 order.length,.sl 1 W 5000002 g7 0 place.length,.sl 3 W 5000001002 g11 0 0,.map W 5000003 g8,.map W 5000004 g9]) O O dZ dZ O (λg11=>SB h g11 (λy=>aC [(2,.ptr W 2 g3 0 0),(4,.ptr W 4 g4 0 0),(10,.ptr W 5000000 g5 0 0),(11,.sl 1 W 56 g10 0 y.1.2.1.length),(58,iZ x.Y),(59,iZ y.1.1)]) (λy=>Qr S W [(2,.arr 3 [aD x],g3),(4,.arr 3 [.agg [.nil,.nil,iZ 0]],g4),(56,.arr 1 (List.map iZ y.1.2.1),g10),(5000000,.arr 5 [.agg [.sl 1 W 5000001 g6 0 order.length,.sl 1 W 5000002 g7 0 place.length,.sl 3 W 5000001002 y.2 0 y.1.2.2.2.length,.map W 5000003 g8,.map W 5000004 g9]],g5),(5000001,.arr 1 (List.map iZ order),g6),(5000002,.arr 1 (List.map iZ place),g7),(5000003,ay iZ Qu y.1.2.2.1,g8),(5000004,ay iZ Qu memo,g9),(5000001002,.arr 3 (List.map aw y.1.2.2.2),y.2)]) (Rm.trans (Rm.ow (k:=5000000) (o':=.arr 5 [.agg [.sl 1 W 5000001 g6 0 order.length,.sl 1 W 5000002 g7 0 place.length,.sl 3 W 5000001002 g11 0 ([].length),.map W 5000003 g8,.map W 5000004 g9]]) O<|OW.one<|SG.US<|vZ<|vZ<|QJ (VW.QO QK)<|vZ<|vZ<|vn)<|canon (fZ<|fZ<|fZ<|fc (VW.QO QK)<|fZ<|fZ<|fn)<|mK O O O O<|mK O O O O<|sc O<|sn) (λy _ h=>?_));obtain⟨⟨x1,refs,x2,x3⟩,g12⟩:=y;refine wk 5 λh=>?_
  refine cZ h O (λB2 h=>?_) (λB2 h=>?_)
  ·refine wk 13 λh=>?_
   refine aj<|Qn O<|bh (ac (aZ 5000000 O)<|ac (aZ 5000001002 O)<|ac (aZ 5000003 O)<|ac (aZ 5000001 O)<|ac (aZ 5000002 O)<|ac (aZ 5000004 O)<|aG)<|eW Sk h λu u1 r3 g13 h=>aM (aN (aN (aN (ac (aZ 5000001 O)<|ac (aZ 5000002 O)<|ac (aZ 5000004 O)<|aG) bm) bm) bm) ?_
   exact wk 9999 trivial
  refine wk 10 λh=>?_
  refine SB h g12 (λy=>aC [(2,.ptr W 2 g3 0 0),(4,.ptr W 4 g4 0 0),(10,.ptr W 5000000 g5 0 0),(11,.sl 1 W 56 g10 0 y.1.2.1.length),(70,eL bT x.N),(71,iZ (x.N.length:Int)),(72,iZ y.1.1)]) (λy=>Qr S W [(2,.arr 3 [aD x],g3),(4,.arr 3 [.agg [.nil,.nil,iZ 0]],g4),(56,.arr 1 (List.map iZ y.1.2.1),g10),(5000000,.arr 5 [.agg [.sl 1 W 5000001 g6 0 order.length,.sl 1 W 5000002 g7 0 place.length,.sl 3 W 5000001002 y.2 0 y.1.2.2.2.2.length,.map W 5000003 g8,.map W 5000004 g9]],g5),(5000001,.arr 1 (List.map iZ order),g6),(5000002,.arr 1 (List.map iZ place),g7),(5000003,ay iZ Qu y.1.2.2.1,g8),(5000004,ay iZ Qu y.1.2.2.2.1,g9),(5000001002,.arr 3 (List.map aw y.1.2.2.2.2),y.2)]) Rj (λy _ h=>?_);obtain⟨⟨x4,QV,x5,x6,x7⟩,g14⟩:=y;refine wk 5 λh=>?_
  refine cZ h O (λB3 h=>?_) (λB3 h=>?_)
  ·refine wk 25 λg15 h G3 h=>?_;refine Vc.V6 15 90 1 O dZ (λg16=>SB h g16 (λy=>aC [(2,.ptr W 2 g3 0 0),(4,.ptr W 4 g4 0 0),(10,.ptr W 5000000 g5 0 0),(11,.sl 1 W 56 g10 0 QV.length),(13,iZ x4),(14,.ptr W 14 g15 0 0),(15,.sl 1 W 90 y.2 0 y.1.2.length),(70,eL bT x.N),(71,iZ (x.N.length:Int)),(72,iZ x4),(78,aF ((P9 x.N x4).Z)),(79,iZ (((P9 x.N x4).Z).length:Int)),(80,iZ y.1.1)]) (λy=>Qr S W [(2,.arr 3 [aD x],g3),(4,.arr 3 [.agg [.nil,.nil,iZ 0]],g4),(14,.arr 3 [bT (P9 x.N x4)],g15),(56,.arr 1 (List.map iZ QV),g10),(90,.arr 1 (List.map iZ y.1.2),y.2),(5000000,.arr 5 [.agg [.sl 1 W 5000001 g6 0 order.length,.sl 1 W 5000002 g7 0 place.length,.sl 3 W 5000001002 g14 0 x7.length,.map W 5000003 g8,.map W 5000004 g9]],g5),(5000001,.arr 1 (List.map iZ order),g6),(5000002,.arr 1 (List.map iZ place),g7),(5000003,ay iZ Qu x5,g8),(5000004,ay iZ Qu x6,g9),(5000001002,.arr 3 (List.map aw x7),g14)]) (canon (kD<|fZ<|fZ<|fc (VW.QO QK)<|kD<|fZ<|fZ<|fn)<|mK O O O O<|mK O O O O<|sc O<|sc O<|sc O<|sn) (λy _ h=>?_));obtain⟨⟨x8,args⟩,g17⟩:=y;refine wk 5 λh=>?_
   refine cZ h O (λB4 h=>?_) (λB4 h=>?_)
   ·refine wk 15 λh G4 h J1 h=>?_;refine wZ W<|aT bW Rz dg (es:=[iZ (P9 QV<|P9 ((P9 x.N x4).Z) x8)]) O (kk:=1) O O O O O O (λg18=>Qp h (λG5 h=>wZ W<|dD bW nC Rz dg (es:=args) (xs:=[(P9 QV<|P9 ((P9 x.N x4).Z) x8)]) (enc:=iZ) (aZ 90 O) QK (bS (aZ 89 O) QK) (kk:=1) O O (λ_=>O) (λ_=>O) G5 O (λ_=>bm) (λg19=>?_)))
    exact wk 9999 trivial
   refine VB<|qZ<|Dy (aU (k:=90) (xs:=List.map iZ args) O (es:=[(2,.ptr W 2 g3 0 0),(4,.ptr W 4 g4 0 0),(10,.ptr W 5000000 g5 0 0),(11,.sl 1 W 56 g10 0 QV.length),(13,iZ x4),(14,.ptr W 14 g15 0 0),(15,aF args),(70,eL bT x.N),(71,iZ (x.N.length:Int)),(72,iZ x4)]) (fZ<|fZ<|fZ<|fc (kz O)<|fZ<|fZ<|fc (aR O)<|fZ<|fZ<|fZ<|fn) (m:=[(2,.arr 3 [aD x],g3),(4,.arr 3 [.agg [.nil,.nil,iZ 0]],g4),(14,.arr 3 [bT (P9 x.N x4)],g15),(56,.arr 1 (List.map iZ QV),g10),(5000000,.arr 5 [.agg [.sl 1 W 5000001 g6 0 order.length,.sl 1 W 5000002 g7 0 place.length,.sl 3 W 5000001002 g14 0 x7.length,.map W 5000003 g8,.map W 5000004 g9]],g5),(5000001,.arr 1 (List.map iZ order),g6),(5000002,.arr 1 (List.map iZ place),g7),(5000003,ay iZ Qu x5,g8),(5000004,ay iZ Qu x6,g9),(5000001002,.arr 3 (List.map aw x7),g14)]) (mK O O O O<|mK O O O O<|sc O<|sc O<|sn)) (Qp h (λG7 h=>?_));obtain⟨u2,u3,u4,r4,C,h⟩:=h;refine Qp h (λJ2 h=>Vc.Qf mixed W (gO [(8,wc (λ_=>iZ r4) [(W,5000001),(W,5000002)] [(W,5000000),(W,5000001002),(W,5000003),(W,5000004)] (λgm=>[(W,5000000,.arr 5 [.agg [.sl 1 W 5000001 g6 0 order.length,.sl 1 W 5000002 g7 0 place.length,.sl 3 W 5000001002 (gm 0) 0 u2.length,.map W 5000003 g8,.map W 5000004 g9]],g5),(W,5000001002,.arr 3 (List.map aw u2),(gm 0)),(W,5000003,ay iZ Qu u3,g8),(W,5000004,ay iZ Qu u4,g9)]))]) Ql ?_);refine wk 4 λh=>?_
   refine dP O O<|i_ O O G7 ?_;refine wk 3 λh=>?_
   refine Th (vs:=[.ptr W 5000000 g5 0 0,bT (P9 x.N x4),aF args]) (V:=λ_=>iZ r4) (rd:=[(W,5000001),(W,5000002)]) (wk:=[(W,5000000),(W,5000001002),(W,5000003),(W,5000004)]) (wr:=λgm=>[(W,5000000,.arr 5 [.agg [.sl 1 W 5000001 g6 0 order.length,.sl 1 W 5000002 g7 0 place.length,.sl 3 W 5000001002 (gm 0) 0 u2.length,.map W 5000003 g8,.map W 5000004 g9]],g5),(W,5000001002,.arr 3 (List.map aw u2),(gm 0)),(W,5000003,ay iZ Qu u3,g8),(W,5000004,ay iZ Qu u4,g9)]) rfl (vZ<|vZ<|vZ<|vn) rfl (SL Ql<|Q0 RD QZ) Qy (λ_=>rfl) (λS' hA hB=>bh (ac (ag hB 0 rfl<|aZ 5000000 rfl)<|ac (ag hB 1 rfl<|aZ 5000001002 rfl)<|ac (ag hB 2 rfl<|aZ 5000003 rfl)<|ac (ag hB 3 rfl<|aZ 5000004 rfl)<|ac (ag hA 0 rfl<|aZ 5000001 rfl)<|ac (ag hA 1 rfl<|aZ 5000002 rfl)<|aG)<|sx Sk C (λ_ _ _ _ h3 he=>by obtain⟨rfl,rfl,rfl,rfl⟩:=he;exact⟨λi=>[h3].getD i 0,rfl,cu (cu<|cu<|cu<|ac (ag hA 0 rfl<|aZ 5000001 rfl)<|ac (ag hA 1 rfl<|aZ 5000002 rfl)<|aG)⟩)) (λgm=>cg (cw (cw (cw (cw (jg) bm) bm) bm) bm)<|dP O O<|aV bW Se dZ O O J2 ?_);refine wk 12 λh G8 h J3 h=>?_;refine aj<|Qn O<|bh (ac (aZ 5000000 O)<|ac (aZ 5000001 O)<|ac (aZ 5000002 O)<|ac (aZ 5000001002 O)<|ac (aZ 5000003 O)<|ac (aZ 5000004 O)<|aG)<|mW Sk h λr5 h=>aM (ac (aZ 5000000 O)<|ac (aZ 5000001 O)<|ac (aZ 5000002 O)<|ac (aZ 5000001002 O)<|ac (aZ 5000003 O)<|ac (aZ 5000004 O)<|aG)<|aj<|qG O<|nZ<|cZ h O (λB5 h=>?_) (λB5 h=>?_)
   ·refine dj<|aj<|cx Cy xy yY xE qC (ps:=[]) O O (v:=.agg [.nil,.nil,iZ 0]) O ?_;refine wk 4 λh=>?_
    exact uZ<|bn (aZ 4 O) qC dZ zh O O (v:=.agg [.nil,.nil,iZ 0]) O<|ah (v:=.iface 36 (iZ 4)) O<|am<|ak H (VW.QF<|QJ (VW.Sb<|QJ (VW.QC)<|QJ (VW.QC)<|vZ<|vn)<|vZ<|vn)<|L _ _ h
   exact wk 9999 trivial
  refine wk 9 λh J4 h=>?_;refine aj<|Qn O<|bh (ac (aZ 5000000 O)<|ac (aZ 5000001 O)<|ac (aZ 5000002 O)<|ac (aZ 5000001002 O)<|ac (aZ 5000003 O)<|ac (aZ 5000004 O)<|aG)<|mz Sk h λr6 h=>aM (ac (aZ 5000000 O)<|ac (aZ 5000001 O)<|ac (aZ 5000002 O)<|ac (aZ 5000001002 O)<|ac (aZ 5000003 O)<|ac (aZ 5000004 O)<|aG) ?_
  refine wk 3 λh=>?_
  exact uZ<|bn (aZ 4 O) qC dZ zh O O (v:=dx r6) O<|ah (v:=.Qg) O<|am<|ak H RE<|L _ _ h
 refine wk 5 λh=>?_
 refine cZ h O (λB6 h=>?_) (λB6 h=>?_)
 ·refine wk 3 λh=>?_
  refine aj<|Qn O<|lH h λr7 r8 h=>?_
  refine wk 11 λh=>?_
  refine cZ h O (λB7 h=>?_) (λB7 h=>?_)
  ·refine dj<|aj<|cx Cy xy yY xE qC (ps:=[]) O O (v:=.agg [.nil,.nil,iZ 0]) O ?_;refine wk 4 λh=>?_
   exact uZ<|bn (aZ 4 O) qC dZ zh O O (v:=.agg [.nil,.nil,iZ 0]) O<|ah (v:=bd 36 r8) O<|am<|ak H (VW.QF<|QJ (VW.Sb<|QJ (VW.QC)<|QJ (VW.QC)<|vZ<|vn)<|vZ<|vn)<|L _ _ h
  exact wk 9999 trivial
 refine wk 4 λh=>?_
 exact⟨((⟨f.Y,[],f.A⟩:GFormula),(g1,g2)),(Rm.trans (Rm.ow (k:=2) (o':=.arr 3 [aD (⟨f.Y,[],f.A⟩:GFormula)]) O<|OW.one<|SG.US<|vZ<|QJ (VW.QC)<|vZ<|vn)<|canon (fZ<|fZ<|fZ<|fn)<|sc O<|sc O<|sn),h⟩
variable{d:Qs}
theorem qS{Tn:List Int}{i:Int}{Q:Option Int->Prop}(h:jc d Tn i Q)(L:∀r1,Q r1->R (bd 36 r1) S) :Ctr prog 208 [dx d,aF Tn,iZ i] S R:=by
 refine ar func208 rfl ntmps208 results208 Ql (λW H=>?_);refine wk 17 λg1 g2 h G h=>?_;refine Ud (γ:=Nat×Nat) h (λy=>aC [(1,aF Tn),(3,.ptr W 3 y.2.1 0 0),(7,.ptr W 7 y.2.2 0 0),(15,.bool y.1)]) (λy=>Qr S W [(3,.arr 3 [dx d],y.2.1),(7,.arr 3 [aw (P9 d.N i)],y.2.2)]) (λy h=>?_) (λ_ h=>?_)
 ·obtain⟨x,⟨g3,g4⟩⟩:=y;refine cZ h O (λB h=>?_) (λB h=>?_)
  ·refine wk 5 λh=>?_
   exact uZ<|Qv H<|L _ h
  refine wk 9 λh=>?_
  refine cZ h O (λB1 h=>?_) (λB1 h=>?_)
  ·refine wk 5 λh=>?_
   exact uZ<|Qv H<|L _ h
  refine wk 8 λh=>?_
  refine wZ W<|aT bW Rz dg (es:=[iZ ((P9 d.N i).F),iZ ((P9 d.N i).D)]) O (kk:=1) O O O O O O (λg5=>?_)
  refine wk 4 λh=>?_
  refine SB h (g3,g4,g5) (λy=>aC [(1,aF Tn),(3,.ptr W 3 y.2.1 0 0),(7,.ptr W 7 y.2.2.1 0 0),(57,.sl 1 W 57 y.2.2.2 0 ([(P9 d.N i).F,(P9 d.N i).D].length)),(58,iZ ([(P9 d.N i).F,(P9 d.N i).D].length:Int)),(59,iZ y.1)]) (λy=>Qr S W [(3,.arr 3 [dx d],y.2.1),(7,.arr 3 [aw (P9 d.N i)],y.2.2.1),(57,.arr 1 (List.map iZ [(P9 d.N i).F,(P9 d.N i).D]),y.2.2.2)]) Rj (λy _ h=>?_);obtain⟨x1,⟨g6,g7,g8⟩⟩:=y;refine wk 5 λh=>?_
  refine cZ h O (λB2 h=>?_) (λB2 h=>?_)
  ·refine wk 7 λh J h=>?_;refine TP h (λr hs h=>wZ W<|bX (v:=iZ r) (by subst hs;rfl)<|nZ<|Ud (γ:=Nat×Nat×Nat) h (λy=>aC [(1,aF Tn),(3,.ptr W 3 y.2.1 0 0),(7,.ptr W 7 y.2.2.1 0 0),(57,.sl 1 W 57 y.2.2.2 0 ([(P9 d.N i).F,(P9 d.N i).D].length)),(58,iZ ([(P9 d.N i).F,(P9 d.N i).D].length:Int)),(59,iZ x1),(82,.bool y.1)]) (λy=>Qr S W [(3,.arr 3 [dx d],y.2.1),(7,.arr 3 [aw (P9 d.N i)],y.2.2.1),(57,.arr 1 (List.map iZ [(P9 d.N i).F,(P9 d.N i).D]),y.2.2.2)]) (λy h=>?_) (λ_ h=>?_))
   ·obtain⟨x2,⟨g9,g10,g11⟩⟩:=y;refine cZ h O (λB3 h=>?_) (λB3 h=>?_)
    ·refine wk 5 λh=>?_
     exact uZ<|Qv H<|L _ h
    exact wk 9999 trivial
   refine Wc h (λB4 h=>?_) (λB4 h=>?_)
   ·refine Qp h (λG2 h=>Qp h (λG3 h=>Qp h (λG4 h=>Qp h (λG5 h=>Vc.Qf mixed W (λ_=>eo) Ql ?_))));refine wk 12 λh=>?_
    refine dP O O<|cL O O G2<|Zs O O O<|dP O O<|ek nk gq dZ (λ_=>O) O O G3 ?_;refine wk 5 λh=>?_
    refine dP O O<|ek bW Se dZ (λ_=>O) O O G4 ?_;refine wk 9 λh=>?_
    refine dP O O<|ek bW Se dZ (λ_=>O) O O G5 ?_;exact wk 9999 trivial
   exact wk 9999 trivial
  refine wk 5 λh=>?_
  exact uZ<|Qv H<|L _ h
 exact wk 9999 trivial
theorem oG{fu:Nat}:∀ {r:Int} {u:Qs} {u1:Bool} {u2:Int} {u3:List Bool} {q0 k0 g0 q1 k1 g1 q2 k2 g2 q3 k3 g3 q4 k4 g4 q5 k5 g5:Nat} (K:DK [(q0,k0),(q3,k3),(q4,k4),(q5,k5),(q1,k1),(q2,k2)]) {Q:Bool->Int->List Bool->Prop} {S:St} {R:AV->St->Prop} (h:bI fu r u u1 u2 u3 Q) (L:∀r1 r2 r3,Q r1 r2 r3->R (.tuple []) (Qk S [(q0,k0,.arr 1 [.sl 1 q5 k5 g5 0 r3.length],g0),(q3,k3,.arr 1 [.bool r1],g3),(q4,k4,.arr 1 [.int .i64 r2],g4),(q5,k5,.arr 1 (List.map AV.bool r3),g5),(q1,k1,.arr 1 [.fn (.func 222) [] [.ptr q0 k0 g0 0 0,.ptr q1 k1 g1 0 0,.ptr q2 k2 g2 0 0,.ptr q3 k3 g3 0 0,.ptr q4 k4 g4 0 0]],g1),(q2,k2,.arr 3 [dx u],g2)])),Ctr prog 222 [iZ r,.ptr q0 k0 g0 0 0,.ptr q1 k1 g1 0 0,.ptr q2 k2 g2 0 0,.ptr q3 k3 g3 0 0,.ptr q4 k4 g4 0 0] (Qk S [(q0,k0,.arr 1 [.sl 1 q5 k5 g5 0 u3.length],g0),(q3,k3,.arr 1 [.bool u1],g3),(q4,k4,.arr 1 [.int .i64 u2],g4),(q5,k5,.arr 1 (List.map AV.bool u3),g5),(q1,k1,.arr 1 [.fn (.func 222) [] [.ptr q0 k0 g0 0 0,.ptr q1 k1 g1 0 0,.ptr q2 k2 g2 0 0,.ptr q3 k3 g3 0 0,.ptr q4 k4 g4 0 0]],g1),(q2,k2,.arr 3 [dx u],g2)]) R:=by
 induction fu with
 | zero=>
  intro r u u1 u2 u3 q0 k0 g0 q1 k1 g1 q2 k2 g2 q3 k3 g3 q4 k4 g4 q5 k5 g5 K Q S R h L;exact False.elim h
 | succ fu ih=>
 intro r u u1 u2 u3 q0 k0 g0 q1 k1 g1 q2 k2 g2 q3 k3 g3 q4 k4 g4 q5 k5 g5 K Q S R h L;rw[bI]at h;refine ar func222 rfl ntmps222 results222 Ql (λW H=>?_);have D:=(λ{X:cd} (_:∀k,Qk S X W k=none) (h:DX X)=>h) H K;have F:=λX' e=>aJ (X':=X') e H;have A0:=ae D H 0 rfl;have A3:=ae D H 1 rfl;have A4:=ae D H 2 rfl;have A5:=ae D H 3 rfl;have A1:=ae D H 4 rfl;have A2:=ae D H 5 rfl;refine wk 6 λh=>?_
 refine T8 h O O (λB h=>?_) (λB h=>?_)
 ·refine wk 11 λh G h J h=>?_;refine cZ h O (λB1 h=>?_) (λB1 h=>?_);·exact uZ<|Sy (F _ O)<|L _ _ _ h
  refine wk 10 λh G1 h J1 h=>?_;refine Qp h (λG2 h=>Qp h (λG3 h=>?_));obtain⟨u4,u5,u6,C,hl,h⟩:=h;refine Vc.Qf mixed W (gO [(8,wc (λ_=>.tuple []) [(q1,k1),(q2,k2)] [(q0,k0),(q3,k3),(q4,k4),(q5,k5)] (λ_=>[(q0,k0,.arr 1 [.sl 1 q5 k5 g5 0 u6.length],g0),(q3,k3,.arr 1 [.bool u4],g3),(q4,k4,.arr 1 [iZ u5],g4),(q5,k5,.arr 1 (List.map AV.bool u6),g5)]))]) Ql ?_;refine wk 4 λh=>?_
  refine dP O O<|cL O O G2<|dP O O<|ek nk gq dZ (λ_=>O) O O G3 ?_;refine wk 2 λh=>?_
  refine cg (congrArg (λnQ=>Qr (Qk S [(q0,k0,.arr 1 [.sl 1 q5 k5 g5 0 nQ],g0),(q3,k3,.arr 1 [.bool u1],g3),(q4,k4,.arr 1 [iZ u2],g4),(q5,k5,.arr 1 (List.map AV.bool<|Qt u3 (r-2) true),g5),(q1,k1,.arr 1 [.fn (.func 222) [] [.ptr q0 k0 g0 0 0,.ptr q1 k1 g1 0 0,.ptr q2 k2 g2 0 0,.ptr q3 k3 g3 0 0,.ptr q4 k4 g4 0 0]],g1),(q2,k2,.arr 3 [dx u],g2)]) W []) (show u3.length=(Qt u3 (r-2) true).length from QK)) ?_;refine Th (vs:=[iZ ((P9 u.N<|r-2).F),.ptr q0 k0 g0 0 0,.ptr q1 k1 g1 0 0,.ptr q2 k2 g2 0 0,.ptr q3 k3 g3 0 0,.ptr q4 k4 g4 0 0]) (V:=λ_=>.tuple []) (rd:=[(q1,k1),(q2,k2)]) (wk:=[(q0,k0),(q3,k3),(q4,k4),(q5,k5)]) (wr:=λ_=>[(q0,k0,.arr 1 [.sl 1 q5 k5 g5 0 u6.length],g0),(q3,k3,.arr 1 [.bool u4],g3),(q4,k4,.arr 1 [iZ u5],g4),(q5,k5,.arr 1 (List.map AV.bool u6),g5)]) rfl (vZ<|vZ<|vZ<|vZ<|vZ<|vZ<|vn) rfl QZ Qy (λ_=>rfl) (λS' hA hB=>bh (ac (ag hB 0 rfl<|P_ A0 D 0 rfl)<|ac (ag hB 1 rfl<|P_ A3 D 1 rfl)<|ac (ag hB 2 rfl<|P_ A4 D 2 rfl)<|ac (ag hB 3 rfl<|P_ A5 D 3 rfl)<|ac (ag hA 0 rfl<|P_ A1 D 4 rfl)<|ac (ag hA 1 rfl<|P_ A2 D 5 rfl)<|aG)<|ih (Q7 [0,1,2,3,4,5] K O O) C (λ_ _ _ he=>by obtain⟨rfl,rfl,rfl⟩:=he;exact⟨λi=>([]:List Nat).getD i 0,rfl,cu (cu<|cu<|cu<|ac (ag hA 0 rfl<|P_ A1 D 4 rfl)<|ac (ag hA 1 rfl<|P_ A2 D 5 rfl)<|aG)⟩)) (λ_=>cg (cw (cw (cw (cw (jg)<|aI A5 D 3 O O)<|aI A4 D 2 O O)<|aI A3 D 1 O O)<|aI A0 D 0 O O)<|dN<|qZ<|Qp h (λG4 h=>Qp h (λG5 h=>?_)));obtain⟨u7,u8,u9,C1,Tk,h⟩:=h;refine Vc.Qf mixed W (gO [(8,wc (λ_=>.tuple []) [(q1,k1),(q2,k2)] [(q0,k0),(q3,k3),(q4,k4),(q5,k5)] (λ_=>[(q0,k0,.arr 1 [.sl 1 q5 k5 g5 0 u9.length],g0),(q3,k3,.arr 1 [.bool u7],g3),(q4,k4,.arr 1 [iZ u8],g4),(q5,k5,.arr 1 (List.map AV.bool u9),g5)]))]) Ql ?_;refine wk 4 λh=>?_
  refine dP O O<|cL O O G4<|dP O O<|ek nk gq dZ (λ_=>O) O O G5 ?_;refine wk 2 λh=>?_
  refine Th (vs:=[iZ ((P9 u.N<|r-2).D),.ptr q0 k0 g0 0 0,.ptr q1 k1 g1 0 0,.ptr q2 k2 g2 0 0,.ptr q3 k3 g3 0 0,.ptr q4 k4 g4 0 0]) (V:=λ_=>.tuple []) (rd:=[(q1,k1),(q2,k2)]) (wk:=[(q0,k0),(q3,k3),(q4,k4),(q5,k5)]) (wr:=λ_=>[(q0,k0,.arr 1 [.sl 1 q5 k5 g5 0 u9.length],g0),(q3,k3,.arr 1 [.bool u7],g3),(q4,k4,.arr 1 [iZ u8],g4),(q5,k5,.arr 1 (List.map AV.bool u9),g5)]) rfl (vZ<|vZ<|vZ<|vZ<|vZ<|vZ<|vn) rfl QZ Qy (λ_=>rfl) (λS' hA hB=>bh (ac (ag hB 0 rfl<|P_ A0 D 0 rfl)<|ac (ag hB 1 rfl<|P_ A3 D 1 rfl)<|ac (ag hB 2 rfl<|P_ A4 D 2 rfl)<|ac (ag hB 3 rfl<|P_ A5 D 3 rfl)<|ac (ag hA 0 rfl<|P_ A1 D 4 rfl)<|ac (ag hA 1 rfl<|P_ A2 D 5 rfl)<|aG)<|ih (Q7 [0,1,2,3,4,5] K O O) C1 (λ_ _ _ he=>by obtain⟨rfl,rfl,rfl⟩:=he;exact⟨λi=>([]:List Nat).getD i 0,rfl,cu (cu<|cu<|cu<|ac (ag hA 0 rfl<|P_ A1 D 4 rfl)<|ac (ag hA 1 rfl<|P_ A2 D 5 rfl)<|aG)⟩)) (λ_=>cg (cw (cw (cw (cw (jg)<|aI A5 D 3 O O)<|aI A4 D 2 O O)<|aI A3 D 1 O O)<|aI A0 D 0 O O)<|dN ?_);refine Uz h (λy=>aC [(5,.ptr q4 k4 g4 0 0)]) (λy=>Qr (Qk S [(q0,k0,.arr 1 [.sl 1 q5 k5 g5 0 u9.length],g0),(q3,k3,.arr 1 [.bool y],g3),(q4,k4,.arr 1 [iZ u8],g4),(q5,k5,.arr 1 (List.map AV.bool u9),g5),(q1,k1,.arr 1 [.fn (.func 222) [] [.ptr q0 k0 g0 0 0,.ptr q1 k1 g1 0 0,.ptr q2 k2 g2 0 0,.ptr q3 k3 g3 0 0,.ptr q4 k4 g4 0 0]],g1),(q2,k2,.arr 3 [dx u],g2)]) W []) (λx h=>?_) (λ_ h=>?_);·refine wk 5 λh G6 h=>?_;exact Sy (F _ O)<|L _ _ _ h
  exact wk 9999 trivial
 refine wk 6 λh=>?_
 exact U_ O O<|uZ<|Sy (F _ O)<|L _ _ _ h
theorem rD{Q:Bool->Prop}(h:jG d Q)(L:∀r1,Q r1->R (AV.bool r1) S) :Ctr prog 209 [dx d] S R:=by
 refine ar func209 rfl ntmps209 results209 Ql (λW H=>?_);refine wk 17 λg1 g2 g3 h=>?_;refine Qp h (λG h=>wZ W<|fk oP Dq Ww (enc:=AV.bool) (z':=false) tA (kk:=1) O O O G (λg4=>?_))
 refine wk 9 λg5 g6 h=>?_;refine wZ W<|gS (vs:=[]) (us:=[.ptr W 5 g5 0 0,.ptr W 6 g6 0 0,.ptr W 1 g1 0 0,.ptr W 4 g3 0 0,.ptr W 3 g2 0 0]) O O ?_
 refine wk 7 λh=>?_
 refine fh (Rm.ow (k:=5) (o':=.arr 1 [.sl 1 W 10 g4 0 ((bA (d.N.length:Int) false).length)]) O (OW.one<|SG.US<|QJ (VW.QO QK)<|vn)) ?_;obtain⟨_,h⟩:=h;refine aj<|Qn O<|bh (ac (aZ 5 O)<|ac (aZ 4 O)<|ac (aZ 3 O)<|ac (aZ 10 O)<|ac (aZ 6 O)<|ac (aZ 1 O)<|aG)<|oG Sk h λok Qc u h=>aM (aN (aN (aN (aN (ac (aZ 6 O)<|ac (aZ 1 O)<|aG) bm) bm) bm) bm)<|Qp h (λhl h=>?_)
 refine wk 5 λh=>?_
 refine Te h O O (λB h=>?_) (λB h=>?_)
 ·refine wk 12 λh=>?_
  exact uZ<|Qv H<|L _ h
 refine wk 7 λh=>?_
 exact uZ<|Qv H<|L _ h
theorem um{Q:Option Int->Prop}(h:mV d Q)(L:∀r1,Q r1->R (bd 36 r1) S) :Ctr prog 181 [dx d] S R:=by
 refine ar func181 rfl ntmps181 results181 Ql (λW H=>?_);refine wk 9 λg1 h=>?_;refine aj<|Qn O<|sq h λr r1 h=>?_
 refine wk 12 λh=>?_
 refine cZ h O (λB h=>?_) (λB h=>?_)
 ·refine wk 5 λh=>?_
  exact uZ<|Qv H<|L _ h
 refine wk 9 λh=>?_
 refine cZ h O (λB1 h=>?_) (λB1 h=>?_)
 ·refine wk 5 λh=>?_
  exact uZ<|Qv H<|L _ h
 refine kZ<|dj<|wZ W<|fx (enc:=AV.bool) Ai lF trivial (λg2=>?_)
 refine wk 11 λh=>?_
 refine Rf h (λy=>aC [(1,.ptr W 1 g1 0 0),(3,aF r),(5,.map W 23 g2),(25,eL aw d.N),(26,iZ (d.N.length:Int)),(27,iZ y.1)]) (λy=>Qr S W [(1,.arr 3 [dx d],g1),(23,ay AV.bool Qu y.2,g2)]) Rj (λy _ h=>?_);obtain⟨x,x1⟩:=y;refine wk 5 λh=>?_
 refine cZ h O (λB2 h=>?_) (λB2 h=>?_)
 ·refine wk 18 λg3 h G h=>?_;refine aj<|Qn O<|qS h λerr h=>?_
  refine wk 7 λh=>?_
  refine cZ h O (λB3 h=>?_) (λB3 h=>?_)
  ·refine wk 5 λh=>?_
   exact uZ<|Qv H<|L _ h
  refine wk 6 λh=>?_
  refine aj<|lD (aZ 23 O) Ai lF Ww (z:=false) tA O O<|nZ<|cZ h O (λB4 h=>?_) (λB4 h=>?_)
  ·refine wk 5 λh=>?_
   exact uZ<|Qv H<|L _ h
  refine wk 4 λh=>?_
  refine aj<|fY (v:=true) (aZ 23 O) Ai lF O O O bm ?_;exact wk 9999 trivial
 refine VB<|qZ<|bZ<|Ud (γ:=Nat) h (λy=>aC [(1,.ptr W 1 y.2 0 0),(46,.bool y.1)]) (λy=>Qr S W [(1,.arr 3 [dx d],y.2)]) (λy h=>?_) (λ_ h=>?_)
 ·obtain⟨x2,g4⟩:=y;refine cZ h O (λB5 h=>?_) (λB5 h=>?_)
  ·refine wk 5 λh=>?_
   exact uZ<|Qv H<|L _ h
  refine wk 3 λh=>?_
  refine aj<|Qn O<|rD h λr2 h=>?_
  refine wk 3 λh=>?_
  refine cZ h O (λB6 h=>?_) (λB6 h=>?_)
  ·refine wk 5 λh=>?_
   exact uZ<|Qv H<|L _ h
  refine wk 5 λh=>?_
  exact uZ<|Qv H<|L _ h
 exact wk 9999 trivial
end Go.Proofs.YtbnjpdocceckeaaGreat
namespace Go.Proofs.YtbnjpdocceckeaaGreat
open Go.Gg Tryz
set_option maxRecDepth 100000
set_option maxHeartbeats 2000000
variable{S:St}{R:AV->St->Prop}
variable{z1:Q4}
theorem xx{Q:Option Int->Prop}(h:p' z1 Q)(L:∀r1,Q r1->R (bd 36 r1) S) :Ctr prog 141 [kE z1] S R:=by
 refine ar func141 rfl ntmps141 results141 Ql (λW H=>?_);refine wk 13 λg1 h=>?_;refine cZ h O (λB h=>?_) (λB h=>?_)
 ·refine wk 5 λh=>?_
  exact uZ<|Qv H<|L _ h
 refine kZ<|dj<|wZ W<|fx (enc:=AV.bool) Ai lF trivial (λg2=>?_)
 refine wk 11 λh=>?_
 refine SB h (g1,g2) (λy=>aC [(1,.ptr W 1 y.2.1 0 0),(3,.map W 13 y.2.2),(15,eL aw z1.N),(16,iZ (z1.N.length:Int)),(17,iZ y.1.1)]) (λy=>Qr S W [(1,.arr 2 [kE z1],y.2.1),(13,ay AV.bool Qu y.1.2,y.2.2)]) Rj (λy _ h=>?_);obtain⟨⟨x,x1⟩,⟨g3,g4⟩⟩:=y;refine wk 5 λh=>?_
 refine cZ h O (λB1 h=>?_) (λB1 h=>?_)
 ·refine wk 14 λg5 h G h=>?_;refine Ud (γ:=Nat×Nat×Nat) h (λy=>aC [(1,.ptr W 1 y.2.1 0 0),(3,.map W 13 y.2.2.2),(5,.ptr W 5 y.2.2.1 0 0),(15,eL aw z1.N),(16,iZ (z1.N.length:Int)),(17,iZ x),(22,.bool y.1)]) (λy=>Qr S W [(1,.arr 2 [kE z1],y.2.1),(5,.arr 3 [aw (P9 z1.N x)],y.2.2.1),(13,ay AV.bool Qu x1,y.2.2.2)]) (λy h=>?_) (λ_ h=>?_)
  ·obtain⟨x2,⟨g6,g7,g8⟩⟩:=y;refine cZ h O (λB2 h=>?_) (λB2 h=>?_)
   ·refine wk 5 λh=>?_
    exact uZ<|Qv H<|L _ h
   refine wk 7 λh=>?_
   refine cZ h O (λB3 h=>?_) (λB3 h=>?_)
   ·refine wk 5 λh=>?_
    exact uZ<|Qv H<|L _ h
   refine Ud (γ:=Nat×Nat×Nat) h (λy=>aC [(1,.ptr W 1 y.2.1 0 0),(3,.map W 13 y.2.2.2),(5,.ptr W 5 y.2.2.1 0 0),(15,eL aw z1.N),(16,iZ (z1.N.length:Int)),(17,iZ x),(55,.bool y.1)]) (λy=>Qr S W [(1,.arr 2 [kE z1],y.2.1),(5,.arr 3 [aw (P9 z1.N x)],y.2.2.1),(13,ay AV.bool Qu x1,y.2.2.2)]) (λy h=>?_) (λ_ h=>?_)
   ·obtain⟨x3,⟨g9,g10,g11⟩⟩:=y;refine cZ h O (λB4 h=>?_) (λB4 h=>?_)
    ·refine wk 5 λh=>?_
     exact uZ<|Qv H<|L _ h
    refine wk 4 λh=>?_
    refine aj<|lD (aZ 13 O) Ai lF Ww (z:=false) tA O O ?_;refine wk 2 λh=>?_
    refine cZ h O (λB5 h=>?_) (λB5 h=>?_)
    ·refine wk 5 λh=>?_
     exact uZ<|Qv H<|L _ h
    refine wk 4 λh=>?_
    refine aj<|fY (v:=true) (aZ 13 O) Ai lF O O O bm ?_;exact wk 9999 trivial
   refine Wc h (λB6 h=>?_) (λB6 h=>?_)
   ·refine Qp h (λG2 h=>Qp h (λG3 h=>Wc h (λB7 h=>?_) (λB7 h=>?_)))
    ·refine Vc.Qf mixed W (λ_=>eo) Ql ?_;refine wk 13 λh=>?_
     refine dP O O<|cL O O G2<|Zs O O O<|dP O O<|ek nk gq dZ (λ_=>O) O O G3 ?_;exact wk 9999 trivial
    refine Wc h (λB8 h=>?_) (λB8 h=>?_)
    ·refine Qp h (λG4 h=>Qp h (λG5 h=>Vc.Qf mixed W (λ_=>eo) Ql ?_));refine wk 13 λh=>?_
     refine dP O O<|cL O O G2<|Zs O O O<|dP O O<|ek nk gq dZ (λ_=>O) O O G3 ?_;refine wk 29 λh=>?_
     refine dP O O<|cL O O G4<|Zs O O O<|dP O O<|ek nk gq dZ (λ_=>O) O O G5 ?_;exact wk 9999 trivial
    refine Vc.Qf mixed W (λ_=>eo) Ql ?_;refine wk 13 λh=>?_
    refine dP O O<|cL O O G2<|Zs O O O<|dP O O<|ek nk gq dZ (λ_=>O) O O G3 ?_;exact wk 9999 trivial
   refine Wc h (λB9 h=>?_) (λB9 h=>?_)
   ·refine Qp h (λG6 h=>Qp h (λG7 h=>Vc.Qf mixed W (λ_=>eo) Ql ?_));refine wk 34 λh=>?_
    refine dP O O<|cL O O G6<|Zs O O O<|dP O O<|ek nk gq dZ (λ_=>O) O O G7 ?_;exact wk 9999 trivial
   exact wk 9999 trivial
  exact wk 9999 trivial
 refine VB<|qZ<|Ud (γ:=Nat) h (λy=>aC [(1,.ptr W 1 y.2 0 0),(110,.bool y.1)]) (λy=>Qr S W [(1,.arr 2 [kE z1],y.2)]) (λy h=>?_) (λ_ h=>?_)
 ·obtain⟨x4,g12⟩:=y;refine cZ h O (λB13 h=>?_) (λB13 h=>?_)
  ·refine wk 5 λh=>?_
   exact uZ<|Qv H<|L _ h
  refine kZ<|dj<|aj<|Qn O<|iK W 11300000 11300001 11300002 h λunique memo g13 g14 g15 h=>aM (aN (aN (aN (aG) bm) bm) bm) ?_
  refine wk 7 λh=>?_
  refine Wl.TQ 11300000 0 11300001000 3 (b:=λg16=>.agg [.sl 3 W 11300001000 g16 0 (([]:List P').length),.map W 11300001 g14,.map W 11300002 g15]) O O dZ dZ O (λg16=>aj<|Qn O<|bh (ac (aZ 11300000 O)<|ac (aZ 11300001000 O)<|ac (aZ 11300001 O)<|ac (aZ 11300002 O)<|aG)<|gN Sk h λu u1 r g17 h=>aM (aN (aN (aN (ac (aZ 11300002 O)<|aG) bm) bm) bm)<|aj<|Qn O<|bh (ac (aZ 11300000 O)<|ac (aZ 11300001000 O)<|ac (aZ 11300001 O)<|ac (aZ 11300002 O)<|aG)<|ie Sk h λr1 h=>aM (ac (aZ 11300000 O)<|ac (aZ 11300001000 O)<|ac (aZ 11300001 O)<|ac (aZ 11300002 O)<|aG) ?_);refine wk 4 λg18 h=>?_;refine Uz h (λy=>aC [(130,.bool y)]) (λy=>Qr S W []) (λx5 h=>?_) (λ_ h=>?_)
  ·refine cZ h O (λYP h=>?_) (λYP h=>?_)
   ·refine wk 5 λh=>?_
    exact uZ<|Qv H<|L _ h
   refine wk 5 λh=>?_
   exact uZ<|Qv H<|L _ h
  refine wk 7 λh=>?_
  refine T8 h O O (λB15 h=>?_) (λB15 h=>?_)
  ·refine wk 8 λh=>?_
   refine aj<|Qn O<|iz h λr2 h=>?_
   exact wk 9999 trivial
  exact wk 9999 trivial
 exact wk 9999 trivial
theorem zD{list:List Q4}(qr TF TE TC VN:Nat){Q:Option ((List P')×(Qa Int)×(Qa Int))->List Int->Option Int->Prop}{S:St}{R:AV->St->Prop}(h:oJ list Q)(hN:∀r2 r3,Q none r2 r3->R (.tuple [.Sm,eL (AV.int .i64) r2,bd 36 r3]) S)(L:∀c1 c2 c3 r2 r3 h0 h1 h2 h3,Q (some (c1,c2,c3)) r2 r3->R (.tuple [.ptr qr TF h0 0 0,eL (AV.int .i64) r2,bd 36 r3]) (Qk S [(qr,TF,.arr 3 [.agg [.sl 3 qr TE h1 0 c1.length,.map qr TC h2,.map qr VN h3]],h0),(qr,TE,.arr 3 (List.map aw c1),h1),(qr,TC,ay (AV.int .i64) Qu c2,h2),(qr,VN,ay (AV.int .i64) (.many [.u8,.i64,.i64]) c3,h3)])) :Ctr prog 76 [eL kE list] S R:=by
 unfold oJ at h;refine ar func76 rfl ntmps76 results76 Ql (λW H=>?_);refine wk 8 λh=>?_
 refine aj<|Qn O<|iK W 1100000 1100001 1100002 h λunique memo g1 g2 g3 h=>aM (aN (aN (aN (aG) bm) bm) bm) ?_
 refine wk 14 λh=>?_
 refine Vc.V6 6 27 1 O dZ (λg4=>Vc.TQ 1100000 0 1100001000 3 (b:=λg5=>.agg [.sl 3 W 1100001000 g5 0 0,.map W 1100001 g2,.map W 1100002 g3]) O O dZ dZ O (λg5=>SB h (g4,g5) (λy=>aC [(5,.ptr W 1100000 g1 0 0),(6,.sl 1 W 27 y.2.1 0 y.1.2.1.length),(11,eL kE list),(12,iZ (list.length:Int)),(13,iZ y.1.1)]) (λy=>Qr S W [(27,.arr 1 (List.map iZ y.1.2.1),y.2.1),(1100000,.arr 3 [.agg [.sl 3 W 1100001000 y.2.2 0 y.1.2.2.2.length,.map W 1100001 g2,.map W 1100002 g3]],g1),(1100001,ay iZ Qu y.1.2.2.1,g2),(1100002,ay iZ (.many [.u8,.i64,.i64]) memo,g3),(1100001000,.arr 3 (List.map aw y.1.2.2.2),y.2.2)]) (Rm.trans (Rm.ow (k:=1100000) (o':=.arr 3 [.agg [.sl 3 W 1100001000 g5 0 ([].length),.map W 1100001 g2,.map W 1100002 g3]]) O<|OW.one<|SG.US<|QJ (VW.QO QK)<|vZ<|vZ<|vn)<|canon (fZ<|fc (VW.QO QK)<|fZ<|fZ<|fZ<|fn)<|mK O O O O<|sc O<|sn) (λy _ h=>?_)));obtain⟨⟨x,refs,x1,x2⟩,⟨g6,g7⟩⟩:=y;refine wk 5 λh=>?_
 refine cZ h O (λB h=>?_) (λB h=>?_)
 ·refine wk 14 λg8 h G h=>?_;refine aj<|Qn O<|xx h λerr h=>?_
  refine wk 7 λh=>?_
  refine cZ h O (λB1 h=>?_) (λB1 h=>?_)
  ·refine wk 7 λh=>?_
   exact uZ<|ah (v:=.Sm) O<|ah (v:=.nil) O<|ah (v:=bd 36 err) O<|am<|ak H (VW.QF<|vZ<|QJ (VW.QC)<|vZ<|vn)<|hN _ _ h
  refine wk 5 λh=>?_
  refine aj<|Qn O<|bh (ac (aZ 1100000 O)<|ac (aZ 1100001000 O)<|ac (aZ 1100001 O)<|ac (aZ 1100002 O)<|aG)<|gN Sk h λu u1 r g9 h=>aM (aN (aN (aN (ac (aZ 1100002 O)<|aG) bm) bm) bm)<|wZ W<|aT bW Rz dg (es:=[iZ r]) O (kk:=1) O O O O O O (λg10=>Qp h (λG1 h=>wZ W<|dD bW nC Rz dg (es:=refs) (xs:=[r]) (enc:=iZ) (aZ 27 O) QK (bS (aZ 26 O) QK) (kk:=1) O O (λ_=>O) (λ_=>O) G1 O (λ_=>bm) (λg11=>?_)))
  exact wk 9999 trivial
 refine wk 9 λh=>?_
 exact uZ<|ah (v:=.ptr W 1100000 g1 0 0) O<|ah (v:=.sl 1 W 27 g6 0 refs.length) O<|ah (v:=.Qg) O<|am<|aX (k:=27) (xs:=List.map iZ refs) O (v':=.tuple [.ptr W 1100000 g1 0 0,aF refs,.Qg]) (VW.QF<|vZ<|QJ (aR O)<|vZ<|vn)<|oq qr H [(1100000,g1,.arr 3 [.agg [.sl 3 W 1100001000 g7 0 x2.length,.map W 1100001 g2,.map W 1100002 g3]],TF),(1100001000,g7,.arr 3 (List.map aw x2),TE),(1100001,g2,ay iZ Qu x1,TC),(1100002,g3,ay iZ (.many [.u8,.i64,.i64]) memo,VN)] ⟨rfl,rfl,rfl,rfl,rfl,rfl,rfl,rfl,trivial⟩ (λγ=>.tuple [.ptr qr TF (γ 0) 0 0,aF refs,bd 36 none]) (λγ=>[(qr,TF,.arr 3 [.agg [.sl 3 qr TE (γ 1) 0 x2.length,.map qr TC (γ 2),.map qr VN (γ 3)]],γ 0),(qr,TE,.arr 3 (List.map aw x2),γ 1),(qr,TC,ay iZ Qu x1,γ 2),(qr,VN,ay iZ (.many [.u8,.i64,.i64]) memo,γ 3)]) (λγ=>pg (H9<|mq (CL 1 O)<|mq (CM 2 O)<|mq (CM 3 O)<|CN)<|pg (rh)<|pg (rh)<|pg (rh)<|H7) (λγ=>D0<|mq (H' 0 O)<|mq (D1)<|mq (D1)<|CN) (λγ=>L _ _ _ _ _ _ _ _ _ h)
variable{Q:List Int->Prop}{u:List Int}
theorem so{s:Int}{q0 k0 g0 q1 k1 g1:Nat}(K:DK [(q0,k0),(q1,k1)])(h:oL s u Q)(L:∀r1,∀h1,Q r1->R (.tuple []) (Qk S [(q0,k0,.arr 1 [.sl 1 q1 k1 h1 0 r1.length],g0),(q1,k1,.arr 1 (List.map iZ r1),h1)])) :Ctr prog 79 [iZ s,.ptr q0 k0 g0 0 0] (Qk S [(q0,k0,.arr 1 [.sl 1 q1 k1 g1 0 u.length],g0),(q1,k1,.arr 1 (List.map iZ u),g1)]) R:=by
 refine ar func79 rfl ntmps79 results79 Ql (λW H=>?_);have D:=(λ{X:cd} (_:∀k,Qk S X W k=none) (h:DX X)=>h) H K;have F:=λX' e=>aJ (X':=X') e H;have A0:=ae D H 0 rfl;have A1:=ae D H 1 rfl;refine wk 3 λh=>?_
 refine wZ W<|aT bW Rz dg (es:=[iZ s]) O (kk:=1) O O O O O O (λg2=>Qp h (λG h=>wZ W<|dD bW nC Rz dg (es:=u) (xs:=[s]) (enc:=iZ) (P_ A1 D 1 O) QK (bS (aZ 5 O) QK) (kk:=1) O O (λ_=>O) (λ_=>O) G O (λ_=>(aI A1 D 1 O O)) (λg3=>?_)))
 refine wk 2 λh=>?_
 exact Sy (F _ O)<|L _ _ h
theorem mB{fu:Nat}:∀ {r:Int} {set:Int} {u:List Int} {nodes:List P'} {unique:Qa Int} {memo:Qa Int} {q0 k0 g0 q1 k1 g1 q2 k2 g2 q3 k3 g3 q4 k4 g4 q5 k5 g5 q6 k6 g6 q7 k7 g7 q8 k8 g8:Nat} (K:DK [(q3,k3),(q5,k5),(q0,k0),(q1,k1),(q2,k2),(q4,k4),(q6,k6),(q7,k7),(q8,k8)]) {Q:List Int->Prop} {S:St} {R:AV->St->Prop} (h:bL fu r set u nodes unique memo Q) (L:∀r1,∀h5,Q r1->R (.tuple []) (Qk S [(q3,k3,.arr 1 [.sl 1 q5 k5 h5 0 r1.length],g3),(q5,k5,.arr 1 (List.map iZ r1),h5),(q0,k0,.arr 1 [.fn (.func 79) [] [.ptr q3 k3 g3 0 0]],g0),(q1,k1,.arr 1 [.ptr q4 k4 g4 0 0],g1),(q2,k2,.arr 1 [.fn (.func 145) [] [.ptr q0 k0 g0 0 0,.ptr q1 k1 g1 0 0,.ptr q2 k2 g2 0 0]],g2),(q4,k4,.arr 3 [.agg [.sl 3 q6 k6 g6 0 nodes.length,.map q7 k7 g7,.map q8 k8 g8]],g4),(q6,k6,.arr 3 (List.map aw nodes),g6),(q7,k7,ay iZ Qu unique,g7),(q8,k8,ay iZ (.many [.u8,.i64,.i64]) memo,g8)])),Ctr prog 145 [iZ r,iZ set,.ptr q0 k0 g0 0 0,.ptr q1 k1 g1 0 0,.ptr q2 k2 g2 0 0] (Qk S [(q3,k3,.arr 1 [.sl 1 q5 k5 g5 0 u.length],g3),(q5,k5,.arr 1 (List.map iZ u),g5),(q0,k0,.arr 1 [.fn (.func 79) [] [.ptr q3 k3 g3 0 0]],g0),(q1,k1,.arr 1 [.ptr q4 k4 g4 0 0],g1),(q2,k2,.arr 1 [.fn (.func 145) [] [.ptr q0 k0 g0 0 0,.ptr q1 k1 g1 0 0,.ptr q2 k2 g2 0 0]],g2),(q4,k4,.arr 3 [.agg [.sl 3 q6 k6 g6 0 nodes.length,.map q7 k7 g7,.map q8 k8 g8]],g4),(q6,k6,.arr 3 (List.map aw nodes),g6),(q7,k7,ay iZ Qu unique,g7),(q8,k8,ay iZ (.many [.u8,.i64,.i64]) memo,g8)]) R:=by
 induction fu with
 | zero=>
  intro r set u nodes unique memo q0 k0 g0 q1 k1 g1 q2 k2 g2 q3 k3 g3 q4 k4 g4 q5 k5 g5 q6 k6 g6 q7 k7 g7 q8 k8 g8 K Q S R h L;exact False.elim h
 | succ fu ih=>
 intro r set u nodes unique memo q0 k0 g0 q1 k1 g1 q2 k2 g2 q3 k3 g3 q4 k4 g4 q5 k5 g5 q6 k6 g6 q7 k7 g7 q8 k8 g8 K Q S R h L;rw[bL]at h;refine ar func145 rfl ntmps145 results145 Ql (λW H=>?_);have D:=(λ{X:cd} (_:∀k,Qk S X W k=none) (h:DX X)=>h) H K;have F:=λX' e=>aJ (X':=X') e H;have A3:=ae D H 0 rfl;have A5:=ae D H 1 rfl;have A0:=ae D H 2 rfl;have A1:=ae D H 3 rfl;have A2:=ae D H 4 rfl;have A4:=ae D H 5 rfl;have A6:=ae D H 6 rfl;have A7:=ae D H 7 rfl;have A8:=ae D H 8 rfl;refine wk 6 λh=>?_
 refine cZ h O (λB h=>?_) (λB h=>?_)
 ·refine wk 6 λh=>?_
  refine cZ h O (λB1 h=>?_) (λB1 h=>?_)
  ·refine wk 3 λh=>?_
   exact aj<|Qn O<|bh (ac (P_ A3 D 0 O)<|ac (P_ A5 D 1 O)<|aG)<|so (Q7 [0,1] K O O) h λu1 g9 h=>aM (aN (aN (aG)<|aI A5 D 1 O O)<|aI A3 D 0 O O)<|eT<|Sy (F _ O)<|L _ _ h
  exact kZ<|uZ<|Sy (F _ O)<|L _ _ h
 refine wk 20 λg10 h G h J h=>?_;refine aj<|Qn O<|bh (ac (P_ A3 D 0 O)<|ac (P_ A5 D 1 O)<|ac (P_ A0 D 2 O)<|ac (P_ A1 D 3 O)<|ac (P_ A2 D 4 O)<|ac (P_ A4 D 5 O)<|ac (P_ A6 D 6 O)<|ac (P_ A7 D 7 O)<|ac (P_ A8 D 8 O)<|aG)<|ih (Q7 [0,1,2,3,4,5,6,7,8] K O O) h λu2 g11 h=>aM (aN (aN (ac (P_ A0 D 2 O)<|ac (P_ A1 D 3 O)<|ac (P_ A2 D 4 O)<|ac (P_ A4 D 5 O)<|ac (P_ A6 D 6 O)<|ac (P_ A7 D 7 O)<|ac (P_ A8 D 8 O)<|aG)<|aI A5 D 1 O O)<|aI A3 D 0 O O)<|nZ<|Qp h (λG1 h=>?_)
 obtain⟨u3,C,h⟩:=h;refine Vc.Qf mixed W (gO [(8,wc (λ_=>.tuple []) [(q0,k0),(q1,k1),(q2,k2),(q4,k4),(q6,k6),(q7,k7),(q8,k8)] [(q3,k3),(q5,k5)] (λgm=>[(q3,k3,.arr 1 [.sl 1 q5 k5 (gm 0) 0 u3.length],g3),(q5,k5,.arr 1 (List.map iZ u3),(gm 0))]))]) Ql ?_;refine wk 6 λh=>?_
 refine dP O O<|lz O O G1<|dP O O<|MW O O ?_;exact Th (vs:=[iZ ((P9 nodes<|r-2).D),iZ (bits .or .i64 set<|1*2^(Int.toNat<|(P9 nodes<|r-2).T)),.ptr q0 k0 g0 0 0,.ptr q1 k1 g1 0 0,.ptr q2 k2 g2 0 0]) (V:=λ_=>.tuple []) (rd:=[(q0,k0),(q1,k1),(q2,k2),(q4,k4),(q6,k6),(q7,k7),(q8,k8)]) (wk:=[(q3,k3),(q5,k5)]) (wr:=λgm=>[(q3,k3,.arr 1 [.sl 1 q5 k5 (gm 0) 0 u3.length],g3),(q5,k5,.arr 1 (List.map iZ u3),(gm 0))]) rfl (vZ<|vZ<|vZ<|vZ<|vZ<|vn) rfl QZ Qy (λ_=>rfl) (λS' hA hB=>bh (ac (ag hB 0 rfl<|P_ A3 D 0 rfl)<|ac (ag hB 1 rfl<|P_ A5 D 1 rfl)<|ac (ag hA 0 rfl<|P_ A0 D 2 rfl)<|ac (ag hA 1 rfl<|P_ A1 D 3 rfl)<|ac (ag hA 2 rfl<|P_ A2 D 4 rfl)<|ac (ag hA 3 rfl<|P_ A4 D 5 rfl)<|ac (ag hA 4 rfl<|P_ A6 D 6 rfl)<|ac (ag hA 5 rfl<|P_ A7 D 7 rfl)<|ac (ag hA 6 rfl<|P_ A8 D 8 rfl)<|aG)<|ih (Q7 [0,1,2,3,4,5,6,7,8] K O O) C (λ_ h5 he=>by obtain rfl:=he;exact⟨λi=>[h5].getD i 0,rfl,cu (cu<|ac (ag hA 0 rfl<|P_ A0 D 2 rfl)<|ac (ag hA 1 rfl<|P_ A1 D 3 rfl)<|ac (ag hA 2 rfl<|P_ A2 D 4 rfl)<|ac (ag hA 3 rfl<|P_ A4 D 5 rfl)<|ac (ag hA 4 rfl<|P_ A6 D 6 rfl)<|ac (ag hA 5 rfl<|P_ A7 D 7 rfl)<|ac (ag hA 6 rfl<|P_ A8 D 8 rfl)<|aG)⟩)) (λgm=>cg (cw (cw (jg)<|aI A5 D 1 O O)<|aI A3 D 0 O O)<|dN<|Sy (F _ O)<|L _ _ h)
theorem nz{a:Int}{nodes:List P'}{unique memo:Qa Int}{q0 k0 g0 q1 k1 g1 q2 k2 g2 q3 k3 g3 q4 k4 g4 q5 k5 g5:Nat}(K:DK [(q1,k1),(q5,k5),(q0,k0),(q2,k2),(q3,k3),(q4,k4)])(h:iX a nodes unique memo u Q)(L:∀r1,∀h5,Q r1->R (.tuple []) (Qk S [(q1,k1,.arr 1 [.sl 1 q5 k5 h5 0 r1.length],g1),(q5,k5,.arr 1 (List.map iZ r1),h5),(q0,k0,.arr 3 [.agg [.sl 3 q2 k2 g2 0 nodes.length,.map q3 k3 g3,.map q4 k4 g4]],g0),(q2,k2,.arr 3 (List.map aw nodes),g2),(q3,k3,ay iZ Qu unique,g3),(q4,k4,ay iZ (.many [.u8,.i64,.i64]) memo,g4)])):Ctr prog 78 [.ptr q0 k0 g0 0 0,iZ a,.fn (.func 79) [] [.ptr q1 k1 g1 0 0]] (Qk S [(q1,k1,.arr 1 [.sl 1 q5 k5 g5 0 u.length],g1),(q5,k5,.arr 1 (List.map iZ u),g5),(q0,k0,.arr 3 [.agg [.sl 3 q2 k2 g2 0 nodes.length,.map q3 k3 g3,.map q4 k4 g4]],g0),(q2,k2,.arr 3 (List.map aw nodes),g2),(q3,k3,ay iZ Qu unique,g3),(q4,k4,ay iZ (.many [.u8,.i64,.i64]) memo,g4)]) R:=by
 refine ar func78 rfl ntmps78 results78 Ql (λW H=>?_);have D:=(λ{X:cd} (_:∀k,Qk S X W k=none) (h:DX X)=>h) H K;have F:=λX' e=>aJ (X':=X') e H;have A1:=ae D H 0 rfl;have A5:=ae D H 1 rfl;have A0:=ae D H 2 rfl;have A2:=ae D H 3 rfl;have A3:=ae D H 4 rfl;have A4:=ae D H 5 rfl;refine wk 11 λg6 g7 g8 h=>?_;refine wZ W<|gS (vs:=[]) (us:=[.ptr W 5 g7 0 0,.ptr W 3 g6 0 0,.ptr W 6 g8 0 0]) O O ?_
 refine wk 5 λh=>?_
 obtain⟨_,h⟩:=h;exact aj<|Qn O<|bh (ac (P_ A1 D 0 O)<|ac (P_ A5 D 1 O)<|ac (aZ 5 O)<|ac (aZ 3 O)<|ac (aZ 6 O)<|ac (P_ A0 D 2 O)<|ac (P_ A2 D 3 O)<|ac (P_ A3 D 4 O)<|ac (P_ A4 D 5 O)<|aG)<|mB (dV (aq (aQ 0 1 K O O O)<|aq (aK<|Ne.symm A1)<|aq (aK<|Ne.symm A1)<|aq (aK<|Ne.symm A1)<|aq (aQ 0 2 K O O O)<|aq (aQ 0 3 K O O O)<|aq (aQ 0 4 K O O O)<|aq (aQ 0 5 K O O O)<|dU)<|dV (aq (aK<|Ne.symm A5)<|aq (aK<|Ne.symm A5)<|aq (aK<|Ne.symm A5)<|aq (aQ 1 2 K O O O)<|aq (aQ 1 3 K O O O)<|aq (aQ 1 4 K O O O)<|aq (aQ 1 5 K O O O)<|dU)<|dV (aq (cc O)<|aq (cc O)<|aq (aK A0)<|aq (aK A2)<|aq (aK A3)<|aq (aK A4)<|dU)<|dV (aq (cc O)<|aq (aK A0)<|aq (aK A2)<|aq (aK A3)<|aq (aK A4)<|dU)<|dV (aq (aK A0)<|aq (aK A2)<|aq (aK A3)<|aq (aK A4)<|dU)<|Q7 [2,3,4,5] K O O) h λu1 g9 h=>aM (aN (aN (ac (aZ 5 O)<|ac (aZ 3 O)<|ac (aZ 6 O)<|ac (P_ A0 D 2 O)<|ac (P_ A2 D 3 O)<|ac (P_ A3 D 4 O)<|ac (P_ A4 D 5 O)<|aG)<|aI A5 D 1 O O)<|aI A1 D 0 O O)<|nZ<|Sy (F _ O)<|L _ _ h
theorem zF{Q:List Int->Option Int->Prop}(h:oK z1 Q)(L:∀r1 r2,Q r1 r2->R (.tuple [aF r1,bd 36 r2]) S) :Ctr prog 35 [kE z1] S R:=by
 refine ar func35 rfl ntmps35 results35 Ql (λW H=>?_);refine wk 9 λg1 h=>?_;refine wZ W<|aT N5 Pt sD (es:=[kE z1]) O (kk:=2) O O O O O O (λg2=>fh (aU (k:=10) (xs:=List.map kE [z1]) O (es:=[(10,eL kE [z1])]) (fc (aR O)<|fn) (m:=[])<|sn)<|aj<|Qn O<|zD W 1200000 1200001 1200002 1200003 h (λr r1 h=>?_) (λnodes unique memo r r1 g3 g4 g5 g6 h=>?_))
 ·replace h:=h.1 rfl;refine wk 14 λh=>?_
  refine cZ h O (λB2 h=>?_) (λB2 h=>?_)
  ·refine wk 6 λh=>?_
   exact uZ<|ah (v:=.nil) O<|ah (v:=bd 36 r1) O<|am<|ak H (VW.QF<|QJ (VW.QC)<|vZ<|vn)<|L _ _ h
  refine wk 8 λh G2 h=>?_;exact h.elim
 replace h:=h.2 (nodes,unique,memo) rfl;refine aM (aN (aN (aN (aN (aG) bm) bm) bm) bm) ?_;refine wk 14 λh=>?_
 refine cZ h O (λB h=>?_) (λB h=>?_)
 ·refine wk 6 λh=>?_
  exact uZ<|ah (v:=.nil) O<|ah (v:=bd 36 r1) O<|am<|ak H (VW.QF<|QJ (VW.QC)<|vZ<|vn)<|L _ _ h
 refine wk 8 λh G h=>?_;obtain⟨_,h⟩:=h;refine aj<|Qn O<|bh (ac (aZ 1200003 O)<|ac (aZ 1200000 O)<|ac (aZ 1200001 O)<|ac (aZ 1200002 O)<|aG)<|nA Sk h λu r2 h=>aM (aN (ac (aZ 1200000 O)<|ac (aZ 1200001 O)<|ac (aZ 1200002 O)<|aG) bm)<|aj<|It O O<|nZ<|cZ h O (λB1 h=>?_) (λB1 h=>?_)
 ·refine wk 6 λh=>?_
  exact uZ<|ah (v:=.nil) O<|ah (v:=.iface 36 (iZ 4)) O<|am<|ak H (VW.QF<|QJ (VW.QC)<|vZ<|vn)<|L _ _ h
 refine wk 11 λg7 h G1 h=>?_;refine wZ W<|gS (vs:=[]) (us:=[.ptr W 7 g7 0 0]) O O<|Wl.TQ 7 0 8000 1 (b:=λg8=>.sl 1 W 8000 g8 0<|([]:List Int).length) O O dZ dZ O (λg8=>aj<|Qn O<|bh (ac (aZ 7 O)<|ac (aZ 8000 O)<|ac (aZ 1200000 O)<|ac (aZ 1200001 O)<|ac (aZ 1200002 O)<|ac (aZ 1200003 O)<|aG)<|nz Sk h λu1 g9 h=>aM (aN (aN (ac (aZ 1200000 O)<|ac (aZ 1200001 O)<|ac (aZ 1200002 O)<|ac (aZ 1200003 O)<|aG) bm) bm) ?_)
 refine wk 4 λh=>?_
 refine aj<|Qn O<|bh (ac (aZ 8000 O)<|aG)<|pe Sk h λu2 h=>aM (aN (aG) bm)<|Qp h (λhl h=>?_)
 refine wk 7 λh=>?_
 exact uZ<|ah (v:=.sl 1 W 8000 g9 0 u1.length) O<|ah (v:=.Qg) O<|am<|aX (k:=8000) (xs:=List.map iZ u2) O (v':=.tuple [aF u2,.Qg]) (VW.QF<|QJ (aR QK)<|vZ<|vn)<|ak H RE<|L _ _ h
end Go.Proofs.YtbnjpdocceckeaaGreat
namespace Go.Proofs.YtbnjpdocceckeaaGreat
open Go.Gg Tryz
set_option maxRecDepth 100000
set_option maxHeartbeats 2000000
variable{S:St}{R:AV->St->Prop}
variable{d:Qs}
theorem vE(qr TF TE TC VN XS kr5:Nat){Q:Option ((List Int)×(List Int)×(List P')×(Qa Int)×(Qa Int))->Int->Option Int->Prop}{S:St}{R:AV->St->Prop}(h:kK d Q)(hN:∀r2 r3,Q none r2 r3->R (.tuple [.Sm,AV.int .i64 r2,bd 36 r3]) S)(L:∀c1 c2 c3 c4 c5 r2 r3 h0 h1 h2 h3 h4 h5,Q (some (c1,c2,c3,c4,c5)) r2 r3->R (.tuple [.ptr qr TF h0 0 0,AV.int .i64 r2,bd 36 r3]) (Qk S [(qr,TF,.arr 5 [.agg [.sl 1 qr TE h1 0 c1.length,.sl 1 qr TC h2 0 c2.length,.sl 3 qr VN h3 0 c3.length,.map qr XS h4,.map qr kr5 h5]],h0),(qr,TE,.arr 1 (List.map (AV.int .i64) c1),h1),(qr,TC,.arr 1 (List.map (AV.int .i64) c2),h2),(qr,VN,.arr 3 (List.map aw c3),h3),(qr,XS,ay (AV.int .i64) Qu c4,h4),(qr,kr5,ay (AV.int .i64) Qu c5,h5)])) :Ctr prog 135 [dx d] S R:=by
 unfold kK at h;refine ar func135 rfl ntmps135 results135 Ql (λW H=>?_);refine wk 11 λg1 h=>?_;refine aj<|Qn O<|um h λerr h=>?_
 refine wk 7 λh=>?_
 refine cZ h O (λB h=>?_) (λB h=>?_)
 ·refine wk 7 λh=>?_
  exact uZ<|ah (v:=.Sm) O<|ah (v:=iZ 0) O<|ah (v:=bd 36 err) O<|am<|ak H RE<|hN _ _ h
 refine wk 6 λh=>?_
 refine aj<|Qn O<|tR h λr r1 h=>?_
 refine wk 12 λh=>?_
 refine cZ h O (λB1 h=>?_) (λB1 h=>?_)
 ·refine wk 7 λh=>?_
  exact uZ<|ah (v:=.Sm) O<|ah (v:=iZ 0) O<|ah (v:=bd 36 r1) O<|am<|ak H RE<|hN _ _ h
 refine wk 4 λh=>?_
 refine aj<|Qn O<|pW W 2600000 2600001 2600002 2600003 2600004 h λorder place unique memo g2 g3 g4 g5 g6 h=>aM (aN (aN (aN (aN (aN (aG) bm) bm) bm) bm) bm) ?_
 refine wk 7 λh=>?_
 refine Wl.TQ 2600000 2 2600001002 3 (b:=λg7=>.agg [.sl 1 W 2600001 g3 0 order.length,.sl 1 W 2600002 g4 0 place.length,.sl 3 W 2600001002 g7 0 (([]:List P').length),.map W 2600003 g5,.map W 2600004 g6]) O O dZ dZ O (λg7=>aj<|Qn O<|bh (ac (aZ 2600000 O)<|ac (aZ 2600001002 O)<|ac (aZ 2600003 O)<|ac (aZ 2600004 O)<|ac (aZ 2600001 O)<|ac (aZ 2600002 O)<|aG)<|jW Sk h λu u1 u2 r2 g8 h=>aM (aN (aN (aN (aN (ac (aZ 2600001 O)<|ac (aZ 2600002 O)<|aG) bm) bm) bm) bm) ?_);refine wk 4 λh=>?_
 exact uZ<|ah (v:=.ptr W 2600000 g2 0 0) O<|ah (v:=iZ r2) O<|ah (v:=.Qg) O<|am<|oq qr H [(2600000,g2,.arr 5 [.agg [.sl 1 W 2600001 g3 0 order.length,.sl 1 W 2600002 g4 0 place.length,.sl 3 W 2600001002 g8 0 u.length,.map W 2600003 g5,.map W 2600004 g6]],TF),(2600001,g3,.arr 1 (List.map iZ order),TE),(2600002,g4,.arr 1 (List.map iZ place),TC),(2600001002,g8,.arr 3 (List.map aw u),VN),(2600003,g5,ay iZ Qu u1,XS),(2600004,g6,ay iZ Qu u2,kr5)] ⟨rfl,rfl,rfl,rfl,rfl,rfl,rfl,rfl,rfl,rfl,rfl,rfl,trivial⟩ (λγ=>.tuple [.ptr qr TF (γ 0) 0 0,iZ r2,bd 36 none]) (λγ=>[(qr,TF,.arr 5 [.agg [.sl 1 qr TE (γ 1) 0 order.length,.sl 1 qr TC (γ 2) 0 place.length,.sl 3 qr VN (γ 3) 0 u.length,.map qr XS (γ 4),.map qr kr5 (γ 5)]],γ 0),(qr,TE,.arr 1 (List.map iZ order),γ 1),(qr,TC,.arr 1 (List.map iZ place),γ 2),(qr,VN,.arr 3 (List.map aw u),γ 3),(qr,XS,ay iZ Qu u1,γ 4),(qr,kr5,ay iZ Qu u2,γ 5)]) (λγ=>pg (H9<|mq (CL 1 O)<|mq (CL 2 O)<|mq (CL 3 O)<|mq (CM 4 O)<|mq (CM 5 O)<|CN)<|pg (rh)<|pg (rh)<|pg (rh)<|pg (rh)<|pg (rh)<|H7) (λγ=>D0<|mq (H' 0 O)<|mq (D1)<|mq (D1)<|CN) (λγ=>L _ _ _ _ _ _ _ _ _ _ _ _ _ h)
theorem rH{r events:Int}{order place:List Int}{nodes:List P'}{unique memo:Qa Int}{q0 k0 g0 q1 k1 g1 q2 k2 g2 q3 k3 g3 q4 k4 g4 q5 k5 g5:Nat}(K:DK [(q0,k0),(q3,k3),(q4,k4),(q5,k5),(q1,k1),(q2,k2)]){Q:List P'->Qa Int->Qa Int->Bool->Prop}(h:jI r events order place nodes unique memo Q)(L:∀r1 r2 r3 r4,∀h3,Q r1 r2 r3 r4->R (AV.bool r4) (Qk S [(q0,k0,.arr 5 [.agg [.sl 1 q1 k1 g1 0 order.length,.sl 1 q2 k2 g2 0 place.length,.sl 3 q3 k3 h3 0 r1.length,.map q4 k4 g4,.map q5 k5 g5]],g0),(q3,k3,.arr 3 (List.map aw r1),h3),(q4,k4,ay iZ Qu r2,g4),(q5,k5,ay iZ Qu r3,g5),(q1,k1,.arr 1 (List.map iZ order),g1),(q2,k2,.arr 1 (List.map iZ place),g2)])):Ctr prog 136 [.ptr q0 k0 g0 0 0,iZ r,iZ events] (Qk S [(q0,k0,.arr 5 [.agg [.sl 1 q1 k1 g1 0 order.length,.sl 1 q2 k2 g2 0 place.length,.sl 3 q3 k3 g3 0 nodes.length,.map q4 k4 g4,.map q5 k5 g5]],g0),(q3,k3,.arr 3 (List.map aw nodes),g3),(q4,k4,ay iZ Qu unique,g4),(q5,k5,ay iZ Qu memo,g5),(q1,k1,.arr 1 (List.map iZ order),g1),(q2,k2,.arr 1 (List.map iZ place),g2)]) R:=by
 refine ar func136 rfl ntmps136 results136 Ql (λW H=>?_);have D:=(λ{X:cd} (_:∀k,Qk S X W k=none) (h:DX X)=>h) H K;have F:=λX' e=>aJ (X':=X') e H;have A0:=ae D H 0 rfl;have A3:=ae D H 1 rfl;have A4:=ae D H 2 rfl;have A5:=ae D H 3 rfl;have A1:=ae D H 4 rfl;have A2:=ae D H 5 rfl;refine wk 11 λh=>?_
 refine SB h g3 (λy=>aC [(0,.ptr q0 k0 g0 0 0),(1,iZ r),(8,iZ events),(9,iZ y.1.1)]) (λy=>Qr (Qk S [(q0,k0,.arr 5 [.agg [.sl 1 q1 k1 g1 0 order.length,.sl 1 q2 k2 g2 0 place.length,.sl 3 q3 k3 y.2 0 y.1.2.1.length,.map q4 k4 g4,.map q5 k5 g5]],g0),(q3,k3,.arr 3 (List.map aw y.1.2.1),y.2),(q4,k4,ay iZ Qu y.1.2.2.1,g4),(q5,k5,ay iZ Qu y.1.2.2.2,g5),(q1,k1,.arr 1 (List.map iZ order),g1),(q2,k2,.arr 1 (List.map iZ place),g2)]) W []) Rj (λy _ h=>?_);obtain⟨⟨x,x1,x2,x3⟩,g6⟩:=y;refine wk 5 λh=>?_
 refine cZ h O (λB h=>?_) (λB h=>?_)
 ·refine wk 14 λh=>?_
  refine aj<|Qn O<|bh (ac (P_ A0 D 0 O)<|ac (P_ A3 D 1 O)<|ac (P_ A4 D 2 O)<|ac (P_ A5 D 3 O)<|ac (P_ A1 D 4 O)<|ac (P_ A2 D 5 O)<|aG)<|gh (Q7 [0,1,2,3,4,5] K O O) h λu u1 u2 r1 g7 h=>aM (aN (aN (aN (aN (ac (P_ A1 D 4 O)<|ac (P_ A2 D 5 O)<|aG)<|aI A5 D 3 O O)<|aI A4 D 2 O O)<|aI A3 D 1 O O)<|aI A0 D 0 O O) ?_
  refine wk 3 λh=>?_
  refine aj<|Qn O<|bh (ac (P_ A0 D 0 O)<|ac (P_ A3 D 1 O)<|ac (P_ A4 D 2 O)<|ac (P_ A5 D 3 O)<|ac (P_ A1 D 4 O)<|ac (P_ A2 D 5 O)<|aG)<|gh (Q7 [0,1,2,3,4,5] K O O) h λu3 u4 u5 r2 g8 h=>aM (aN (aN (aN (aN (ac (P_ A1 D 4 O)<|ac (P_ A2 D 5 O)<|aG)<|aI A5 D 3 O O)<|aI A4 D 2 O O)<|aI A3 D 1 O O)<|aI A0 D 0 O O) ?_
  obtain⟨_,h⟩:=h;refine aj<|Qn O<|bh (ac (P_ A0 D 0 O)<|ac (P_ A3 D 1 O)<|ac (P_ A4 D 2 O)<|ac (P_ A5 D 3 O)<|ac (P_ A1 D 4 O)<|ac (P_ A2 D 5 O)<|aG)<|bj (Q7 [0,1,2,3,4,5] K O O) h λu6 u7 u8 r3 g9 h=>aM (aN (aN (aN (aN (ac (P_ A1 D 4 O)<|ac (P_ A2 D 5 O)<|aG)<|aI A5 D 3 O O)<|aI A4 D 2 O O)<|aI A3 D 1 O O)<|aI A0 D 0 O O)<|aj<|LN O O<|nZ<|cZ h O (λB1 h=>?_) (λB1 h=>?_)
  ·refine wk 4 λh=>?_
   exact uZ<|Qv (F _ O)<|L _ _ _ _ _ h
  exact wk 9999 trivial
 refine wk 5 λh=>?_
 exact uZ<|Qv (F _ O)<|L _ _ _ _ _ h
variable{Q:Q4->Option Int->Prop}
theorem tw(h:gF d Q)(L:∀r1 r2,Q r1 r2->R (.tuple [kE r1,bd 36 r2]) S) :Ctr prog 75 [dx d] S R:=by
 refine ar func75 rfl ntmps75 results75 Ql (λW H=>?_);refine wk 9 λg1 g2 h=>?_;refine aj<|Qn O<|vE W 1200000 1200001 1200002 1200003 1200004 1200005 h (λr r1 h=>?_) (λorder place nodes unique memo r r1 g3 g4 g5 g6 g7 g8 h=>?_)
 ·replace h:=h.1 rfl;refine wk 14 λh=>?_
  refine cZ h O (λB3 h=>?_) (λB3 h=>?_)
  ·refine dj<|aj<|cx Bn sD uE tJ oD (ps:=[]) O O (v:=.agg [.nil,iZ 0]) O ?_;refine wk 4 λh=>?_
   exact uZ<|bn (aZ 2 O) oD dZ vM O O (v:=.agg [.nil,iZ 0]) O<|ah (v:=bd 36 r1) O<|am<|ak H (VW.QF<|QJ (VW.Sb<|QJ (VW.QC)<|vZ<|vn)<|vZ<|vn)<|L _ _ h
  refine wk 9 λh=>?_
  exact h.elim
 replace h:=h.2 (order,place,nodes,unique,memo) rfl;refine aM (aN (aN (aN (aN (aN (aN (aG) bm) bm) bm) bm) bm) bm) ?_;refine wk 14 λh=>?_
 refine cZ h O (λB h=>?_) (λB h=>?_)
 ·refine dj<|aj<|cx Bn sD uE tJ oD (ps:=[]) O O (v:=.agg [.nil,iZ 0]) O ?_;refine wk 4 λh=>?_
  exact uZ<|bn (aZ 2 O) oD dZ vM O O (v:=.agg [.nil,iZ 0]) O<|ah (v:=bd 36 r1) O<|am<|ak H (VW.QF<|QJ (VW.Sb<|QJ (VW.QC)<|vZ<|vn)<|vZ<|vn)<|L _ _ h
 refine wk 9 λh=>?_
 refine aj<|Qn O<|bh (ac (aZ 1200000 O)<|ac (aZ 1200003 O)<|ac (aZ 1200004 O)<|ac (aZ 1200005 O)<|ac (aZ 1200001 O)<|ac (aZ 1200002 O)<|aG)<|rH Sk h λu u1 u2 r2 g9 h=>aM (aN (aN (aN (aN (ac (aZ 1200001 O)<|ac (aZ 1200002 O)<|aG) bm) bm) bm) bm)<|aj<|qG O<|nZ<|cZ h O (λB1 h=>?_) (λB1 h=>?_)
 ·refine dj<|aj<|cx Bn sD uE tJ oD (ps:=[]) O O (v:=.agg [.nil,iZ 0]) O ?_;refine wk 4 λh=>?_
  exact uZ<|bn (aZ 2 O) oD dZ vM O O (v:=.agg [.nil,iZ 0]) O<|ah (v:=.iface 36 (iZ 7)) O<|am<|ak H (VW.QF<|QJ (VW.Sb<|QJ (VW.QC)<|vZ<|vn)<|vZ<|vn)<|L _ _ h
 refine kZ<|dj<|aj<|Qn O<|iK W 2900000 2900001 2900002 h λRa R8 g10 g11 g12 h=>aM (aN (aN (aN (aG) bm) bm) bm) ?_
 refine wk 7 λh=>?_
 refine Wl.TQ 2900000 0 2900001000 3 (b:=λg13=>.agg [.sl 3 W 2900001000 g13 0 (([]:List P').length),.map W 2900001 g11,.map W 2900002 g12]) O O dZ dZ O (λg13=>aj<|Qn O<|bh (ac (aZ 2900000 O)<|ac (aZ 2900001000 O)<|ac (aZ 2900001 O)<|ac (aZ 2900002 O)<|ac (aZ 1200000 O)<|ac (aZ 1200001 O)<|ac (aZ 1200002 O)<|ac (aZ 1200003 O)<|ac (aZ 1200004 O)<|ac (aZ 1200005 O)<|aG)<|kJ Sk h λu3 u4 u5 x g14 h=>aM (aN (aN (aN (aN (ac (aZ 1200000 O)<|ac (aZ 1200001 O)<|ac (aZ 1200002 O)<|ac (aZ 1200003 O)<|ac (aZ 1200004 O)<|ac (aZ 1200005 O)<|aG) bm) bm) bm) bm) ?_);refine wk 7 λh=>?_
 refine aj<|Qn O<|bh (ac (aZ 2900000 O)<|ac (aZ 2900001000 O)<|ac (aZ 2900001 O)<|ac (aZ 2900002 O)<|aG)<|ny Sk h λr3 h=>aM (ac (aZ 2900000 O)<|ac (aZ 2900001000 O)<|ac (aZ 2900001 O)<|ac (aZ 2900002 O)<|aG)<|aj<|qG O<|nZ<|cZ h O (λB2 h=>?_) (λB2 h=>?_)
 ·refine dj<|aj<|cx Bn sD uE tJ oD (ps:=[]) O O (v:=.agg [.nil,iZ 0]) O ?_;refine wk 4 λh=>?_
  exact uZ<|bn (aZ 2 O) oD dZ vM O O (v:=.agg [.nil,iZ 0]) O<|ah (v:=.iface 36 (iZ 4)) O<|am<|ak H (VW.QF<|QJ (VW.Sb<|QJ (VW.QC)<|vZ<|vn)<|vZ<|vn)<|L _ _ h
 refine wk 5 λh=>?_
 refine aj<|Qn O<|bh (ac (aZ 2900000 O)<|ac (aZ 2900001000 O)<|ac (aZ 2900001 O)<|ac (aZ 2900002 O)<|aG)<|ie Sk h λr4 h=>aM (ac (aZ 2900000 O)<|ac (aZ 2900001000 O)<|ac (aZ 2900001 O)<|ac (aZ 2900002 O)<|aG) ?_
 refine wk 3 λh=>?_
 exact uZ<|bn (aZ 2 O) oD dZ vM O O (v:=kE r4) O<|ah (v:=.Qg) O<|am<|ak H RE<|L _ _ h
variable{f:GFormula}{o:List Int}
theorem yR(h:qv f o Q)(L:∀r1 r2,Q r1 r2->R (.tuple [kE r1,bd 36 r2]) S) :Ctr prog 34 [aD f,aF o] S R:=by
 refine ar func34 rfl ntmps34 results34 Ql (λW H=>?_);refine wk 10 λg1 g2 h=>?_;refine aj<|Qn O<|eP h λerr h=>?_
 refine wk 7 λh=>?_
 refine cZ h O (λB h=>?_) (λB h=>?_)
 ·refine dj<|aj<|cx Bn sD uE tJ oD (ps:=[]) O O (v:=.agg [.nil,iZ 0]) O ?_;refine wk 4 λh=>?_
  exact uZ<|bn (aZ 4 O) oD dZ vM O O (v:=.agg [.nil,iZ 0]) O<|ah (v:=bd 36 err) O<|am<|ak H (VW.QF<|QJ (VW.Sb<|QJ (VW.QC)<|vZ<|vn)<|vZ<|vn)<|L _ _ h
 refine wk 7 λh=>?_
 refine aj<|Qn O<|mN h λZq h=>?_
 refine wk 7 λh=>?_
 refine cZ h O (λB1 h=>?_) (λB1 h=>?_)
 ·refine dj<|aj<|cx Bn sD uE tJ oD (ps:=[]) O O (v:=.agg [.nil,iZ 0]) O ?_;refine wk 4 λh=>?_
  exact uZ<|bn (aZ 4 O) oD dZ vM O O (v:=.agg [.nil,iZ 0]) O<|ah (v:=bd 36 Zq) O<|am<|ak H (VW.QF<|QJ (VW.Sb<|QJ (VW.QC)<|vZ<|vn)<|vZ<|vn)<|L _ _ h
 refine wk 4 λh=>?_
 refine aj<|Qn O<|fg h λr r1 h=>?_
 refine wk 12 λh=>?_
 refine cZ h O (λB2 h=>?_) (λB2 h=>?_)
 ·refine dj<|aj<|cx Bn sD uE tJ oD (ps:=[]) O O (v:=.agg [.nil,iZ 0]) O ?_;refine wk 4 λh=>?_
  exact uZ<|bn (aZ 4 O) oD dZ vM O O (v:=.agg [.nil,iZ 0]) O<|ah (v:=bd 36 r1) O<|am<|ak H (VW.QF<|QJ (VW.Sb<|QJ (VW.QC)<|vZ<|vn)<|vZ<|vn)<|L _ _ h
 refine wk 7 λh=>?_
 refine cZ h O (λB3 h=>?_) (λB3 h=>?_)
 ·refine dj<|aj<|cx Bn sD uE tJ oD (ps:=[]) O O (v:=.agg [.nil,iZ 0]) O ?_;refine wk 4 λh=>?_
  exact uZ<|bn (aZ 4 O) oD dZ vM O O (v:=.agg [.nil,iZ 0]) O<|ah (v:=.iface 36 (iZ 7)) O<|am<|ak H (VW.QF<|QJ (VW.Sb<|QJ (VW.QC)<|vZ<|vn)<|vZ<|vn)<|L _ _ h
 refine wk 5 λh=>?_
 refine aj<|Qn O<|ur h λr2 r3 h=>?_
 refine wk 13 λg3 h=>?_;refine cZ h O (λB4 h=>?_) (λB4 h=>?_)
 ·refine dj<|aj<|cx Bn sD uE tJ oD (ps:=[]) O O (v:=.agg [.nil,iZ 0]) O ?_;refine wk 4 λh=>?_
  exact uZ<|bn (aZ 4 O) oD dZ vM O O (v:=.agg [.nil,iZ 0]) O<|ah (v:=bd 36 r3) O<|am<|ak H (VW.QF<|QJ (VW.Sb<|QJ (VW.QC)<|vZ<|vn)<|vZ<|vn)<|L _ _ h
 refine wk 4 λh=>?_
 refine aj<|Qn O<|tw h λr4 r5 h=>?_
 refine wk 5 λh=>?_
 exact uZ<|bn (aZ 4 O) oD dZ vM O O (v:=kE r4) O<|ah (v:=bd 36 r5) O<|am<|ak H RE<|L _ _ h
theorem zZ{Q:List Int->Option Int->Prop}(h:jR f o Q)(L:∀r1 r2,Q r1 r2->R (.tuple [aF r1,bd 36 r2]) S) :Ctr prog 9 [aD f,aF o] S R:=by
 refine ar func9 rfl ntmps9 results9 Ql (λW H=>?_);refine wk 10 λg1 h=>?_;refine aj<|Qn O<|yR h λr r1 h=>?_
 refine wk 13 λg2 h=>?_;refine cZ h O (λB h=>?_) (λB h=>?_)
 ·refine wk 6 λh=>?_
  exact uZ<|ah (v:=.nil) O<|ah (v:=bd 36 r1) O<|am<|ak H (VW.QF<|QJ (VW.QC)<|vZ<|vn)<|L _ _ h
 refine wk 4 λh=>?_
 refine aj<|Qn O<|zF h λr2 r3 h=>?_
 refine wk 5 λh=>?_
 exact uZ<|ah (v:=aF r2) O<|ah (v:=bd 36 r3) O<|am<|ak H RE<|L _ _ h
end Go.Proofs.YtbnjpdocceckeaaGreat
namespace Go.Proofs.YtbnjpdocceckeaaGreat
open Go.Gg Tryz
set_option maxRecDepth 100000
set_option maxHeartbeats 2000000
variable{S:St}{R:AV->St->Prop}
theorem wJ{l:List Int}{Q:List Int->Option Int->Prop}(h:ii l Q)(L:∀r1 r2,Q r1 r2->R (.tuple [aF r1,bd 36 r2]) S) :Ctr prog 15 [aF l] S R:=by
 refine ar func15 rfl ntmps15 results15 Ql (λW H=>?_);refine wk 8 λh=>?_
 refine aj<|Qn O<|tg h λr r1 h=>?_
 refine wk 12 λh=>?_
 refine cZ h O (λB h=>?_) (λB h=>?_)
 ·refine wk 6 λh=>?_
  exact uZ<|ah (v:=.nil) O<|ah (v:=bd 36 r1) O<|am<|ak H (VW.QF<|QJ (VW.QC)<|vZ<|vn)<|L _ _ h
 refine kZ<|dj<|wZ W<|aT bW Rz dg (es:=[iZ 0]) O (kk:=1) O O O O O O (λg1=>?_)
 refine wk 10 λh=>?_
 refine Dy (aU (k:=19) (xs:=List.map iZ [0]) O (es:=[(6,aF [0]),(20,aF r),(21,iZ (r.length:Int)),(22,iZ 0)]) (fc (aR O)<|fZ<|fZ<|fZ<|fn) (m:=[]) (sn)) (Rf h (λy=>aC [(6,aF y.1),(20,aF r),(21,iZ (r.length:Int)),(22,iZ y.2)]) (λy=>Qr S W []) Rj (λy _ h=>?_));obtain⟨out,x⟩:=y;refine wk 5 λh=>?_
 refine cZ h O (λB1 h=>?_) (λB1 h=>?_)
 ·refine wk 19 λh G h=>?_;refine Vc.V6 9 36 1 O dZ (λg2=>SB h g2 (λy=>aC [(6,aF out),(8,iZ (P9 r x)),(9,.sl 1 W 36 y.2 0 y.1.2.length),(20,aF r),(21,iZ (r.length:Int)),(22,iZ x),(26,iZ y.1.1)]) (λy=>Qr S W [(36,.arr 1 (List.map iZ y.1.2),y.2)]) (canon (fZ<|fZ<|fc (VW.QO QK)<|kD<|fn)<|sc O<|sn) (λy _ h=>?_));obtain⟨⟨x1,single⟩,g3⟩:=y;refine wk 5 λh=>?_
  refine cZ h O (λB2 h=>?_) (λB2 h=>?_)
  ·refine wk 12 λh=>?_
   refine aj<|Qn O<|Bu h λr2 h=>nZ<|cZ h O (λB3 h=>?_) (λB3 h=>?_)
   ·refine wk 3 λh=>?_
    refine Qp h (λG1 h=>aj<|lz O O G1<|wZ W<|aT bW Rz dg (es:=[iZ (1*2^(Int.toNat x1))]) O (kk:=1) O O O O O O (λg4=>Qp h (λG2 h=>wZ W<|dD bW nC Rz dg (es:=single) (xs:=[(1*2^(Int.toNat x1))]) (enc:=iZ) (aZ 36 O) QK (bS (aZ 35 O) QK) (kk:=1) O O (λ_=>O) (λ_=>O) G2 O (λ_=>bm) (λg5=>?_))))
    exact wk 9999 trivial
   exact wk 9999 trivial
  refine wk 5 λh=>?_
  refine fh (aU (k:=36) (xs:=List.map iZ single) O (es:=[(20,aF r),(21,iZ (r.length:Int)),(22,iZ x),(39,aF out),(40,aF single)]) (kD<|fc (aR O)<|fn) (m:=[]) (sn)) (aj<|Qn O<|fI h λr3 r4 h=>?_);refine wk 11 λh=>?_
  refine cZ h O (λB4 h=>?_) (λB4 h=>?_)
  ·refine wk 6 λh=>?_
   exact uZ<|ah (v:=.nil) O<|ah (v:=bd 36 r4) O<|am<|ak H (VW.QF<|QJ (VW.QC)<|vZ<|vn)<|L _ _ h
  exact wk 9999 trivial
 refine wk 7 λh=>?_
 exact uZ<|ah (v:=aF out) O<|ah (v:=.Qg) O<|am<|ak H RE<|L _ _ h
end Go.Proofs.YtbnjpdocceckeaaGreat
namespace Go.Proofs.YtbnjpdocceckeaaGreat
open Go.Gg Tryz
set_option maxRecDepth 100000
set_option maxHeartbeats 2000000
variable{S:St}{R:AV->St->Prop}
variable{events:List Int}{Q1:List Bool}
theorem pm{s:Int}{q0 k0 g0 q1 k1 g1 q2 k2 g2:Nat}(K:DK [(q0,k0),(q1,k1),(q2,k2)]){Q:Int->Prop}(h:gR s events Q1 Q)(L:∀r1,Q r1->R (iZ r1) (Qk S [(q0,k0,.arr 2 [.agg [.sl 1 q1 k1 g1 0 events.length,.sl 1 q2 k2 g2 0 Q1.length]],g0),(q1,k1,.arr 1 (List.map iZ events),g1),(q2,k2,.arr 1 (List.map AV.bool Q1),g2)])) :Ctr prog 92 [.ptr q0 k0 g0 0 0,iZ s] (Qk S [(q0,k0,.arr 2 [.agg [.sl 1 q1 k1 g1 0 events.length,.sl 1 q2 k2 g2 0 Q1.length]],g0),(q1,k1,.arr 1 (List.map iZ events),g1),(q2,k2,.arr 1 (List.map AV.bool Q1),g2)]) R:=by
 refine ar func92 rfl ntmps92 results92 Ql (λW H=>?_);have D:=(λ{X:cd} (_:∀k,Qk S X W k=none) (h:DX X)=>h) H K;have F:=λX' e=>aJ (X':=X') e H;have A0:=ae D H 0 rfl;have A1:=ae D H 1 rfl;have A2:=ae D H 2 rfl;refine wk 19 λh=>?_
 refine Rf h (λy=>aC [(1,iZ s),(5,iZ y.1),(11,.sl 1 q1 k1 g1 0 events.length),(12,iZ (events.length:Int)),(13,iZ y.2)]) (λy=>Qr (Qk S [(q0,k0,.arr 2 [.agg [.sl 1 q1 k1 g1 0 events.length,.sl 1 q2 k2 g2 0 Q1.length]],g0),(q1,k1,.arr 1 (List.map iZ events),g1),(q2,k2,.arr 1 (List.map AV.bool Q1),g2)]) W []) Rj (λy _ h=>?_);obtain⟨out,x⟩:=y;refine wk 5 λh=>?_
 refine cZ h O (λB h=>?_) (λB h=>?_)
 ·refine wk 15 λh J h=>?_;refine Qp h (λG h=>aj<|we O O G ?_);refine wk 2 λh=>?_
  refine Qp h (λG1 h=>aj<|lz O O G1<|aj<|MW O O<|TP h (λRe hs h=>wZ W<|bX (v:=iZ Re) (by subst hs;rfl) ?_));exact wk 9999 trivial
 refine wk 6 λh=>?_
 exact uZ<|Qv (F _ O)<|L _ h
variable{f:GFormula}
theorem tO(qr TF TE TC:Nat){Q:Option ((List Int)×(List Bool))->Option Int->Prop}{S:St}{R:AV->St->Prop}(h:ju f Q)(hN:∀r2,Q none r2->R (.tuple [.Sm,bd 36 r2]) S)(L:∀c1 c2 r2 h0 h1 h2,Q (some (c1,c2)) r2->R (.tuple [.ptr qr TF h0 0 0,bd 36 r2]) (Qk S [(qr,TF,.arr 2 [.agg [.sl 1 qr TE h1 0 c1.length,.sl 1 qr TC h2 0 c2.length]],h0),(qr,TE,.arr 1 (List.map (AV.int .i64) c1),h1),(qr,TC,.arr 1 (List.map AV.bool c2),h2)])) :Ctr prog 43 [aD f] S R:=by
 unfold ju at h;refine ar func43 rfl ntmps43 results43 Ql (λW H=>?_);refine wk 9 λg1 h=>?_;refine aj<|Qn O<|su h λr r1 h=>?_
 refine wk 12 λh=>?_
 refine cZ h O (λB h=>?_) (λB h=>?_)
 ·refine wk 6 λh=>?_
  exact uZ<|ah (v:=.Sm) O<|ah (v:=bd 36 r1) O<|am<|ak H RE<|hN _ h
 refine wk 6 λh=>?_
 refine aj<|Qn O<|jP h λr2 h=>aj<|It O O<|nZ<|cZ h O (λB1 h=>?_) (λB1 h=>?_)
 ·refine wk 6 λh=>?_
  exact uZ<|ah (v:=.Sm) O<|ah (v:=.iface 36 (iZ 4)) O<|am<|ak H RE<|hN _ h
 refine kZ<|dj<|aj<|cx N6 Mk Nx MD Ob (ps:=[]) O O (v:=.agg [.nil,.nil]) O ?_;refine wk 9 λg2 h=>?_
 refine Vc.TQ 23 0 39 1 (b:=λg3=>.agg [.sl 1 W 39 g3 0 0,.nil]) O O dZ dZ O (λg3=>SB h g3 (λy=>aC [(1,.ptr W 1 g1 0 0),(4,iZ r),(6,.ptr W 23 g2 0 0),(24,iZ y.1.1)]) (λy=>Qr S W [(1,.arr 3 [aD f],g1),(23,.arr 2 [.agg [.sl 1 W 39 y.2 0 y.1.2.length,.nil]],g2),(39,.arr 1 (List.map iZ y.1.2),y.2)]) (Rm.trans (Rm.ow (k:=23) (o':=.arr 2 [.agg [.sl 1 W 39 g3 0 ([].length),.nil]]) O<|OW.one<|SG.US<|QJ (VW.QO QK)<|vZ<|vn)<|canon (kD<|fn)<|sc O<|sc O<|sc O<|sn) (λy _ h=>?_));obtain⟨⟨x,x1⟩,g4⟩:=y;refine wk 5 λh=>?_
 refine cZ h O (λB2 h=>?_) (λB2 h=>?_)
 ·refine wk 12 λh=>?_
  refine Qp h (λG h=>aj<|we O O G ?_);refine wk 3 λh=>?_
  refine cZ h O (λB3 h=>?_) (λB3 h=>?_)
  ·refine wk 7 λh=>?_
   refine wZ W<|aT bW Rz dg (es:=[iZ x]) O (kk:=1) O O O O O O (λg5=>Qp h (λG1 h=>wZ W<|dD bW nC Rz dg (es:=x1) (xs:=[x]) (enc:=iZ) (aZ 39 O) QK (bS (aZ 38 O) QK) (kk:=1) O O (λ_=>O) (λ_=>O) G1 O (λ_=>bm) (λg6=>?_)))
   exact wk 9999 trivial
  exact wk 9999 trivial
 refine wk 9 λh=>?_
 refine Qp h (λG4 h=>aj<|lz O O G4<|Qp h (λG5 h=>wZ W<|fk oP Dq Ww (enc:=AV.bool) (z':=false) tA (kk:=1) O O O G5 (λg7=>?_)))
 refine wk 15 λh=>?_
 refine Rf h (λy=>aC [(1,.ptr W 1 g1 0 0),(6,.ptr W 23 g2 0 0),(57,iZ ((Int.toNat<|1*2^(Int.toNat (x1.length:Int))):Int)),(58,iZ y.1)]) (λy=>Qr S W [(1,.arr 3 [aD f],g1),(23,.arr 2 [.agg [.sl 1 W 39 g4 0 x1.length,.sl 1 W 50 g7 0 y.2.length]],g2),(39,.arr 1 (List.map iZ x1),g4),(50,.arr 1 (List.map AV.bool y.2),g7)]) (Rm.trans (Rm.ow (k:=23) (o':=.arr 2 [.agg [.sl 1 W 39 g4 0 x1.length,.sl 1 W 50 g7 0 ((bA (1*2^(Int.toNat (x1.length:Int))) false).length)]]) O (OW.one<|SG.US<|vZ<|QJ (VW.QO QK)<|vn)) (canon (kD<|fn)<|mK O O O O<|sn)) (λy _ h=>?_);obtain⟨x2,x3⟩:=y;refine wk 5 λh=>?_
 refine cZ h O (λB4 h=>?_) (λB4 h=>?_)
 ·refine wk 9 λh=>?_
  obtain⟨r3,C,h⟩:=h;obtain⟨r4,r5,C1,h⟩:=h;refine Qp h (λJ h=>Vc.Qf mixed W (gO [(8,wc (λ_=>iZ r3) [(W,23),(W,39),(W,50)] [] (λ_=>[])),(9,pc (.tuple [.bool r4,bd 36 r5]))]) Ql ?_);refine wk 8 λh=>?_
  refine Th (vs:=[.ptr W 23 g2 0 0,iZ x2]) (V:=λ_=>iZ r3) (rd:=[(W,23),(W,39),(W,50)]) (wk:=[]) (wr:=λ_=>[]) rfl (vZ<|vZ<|vn) rfl (Q0 RD<|Q0 RD QZ) Qy (λ_=>rfl) (λS' hA hB=>bh (ac (ag hA 0 rfl<|aZ 23 rfl)<|ac (ag hA 1 rfl<|aZ 39 rfl)<|ac (ag hA 2 rfl<|aZ 50 rfl)<|aG)<|pm Sk C (λ_ he=>by obtain rfl:=he;exact⟨λi=>([]:List Nat).getD i 0,rfl,ac (ag hA 0 rfl<|aZ 23 rfl) (ac (ag hA 1 rfl<|aZ 39 rfl)<|ac (ag hA 2 rfl<|aZ 50 rfl)<|aG)⟩)) (λ_=>cg (jg)<|dC (vs:=[aD f,iZ r3]) O (vZ<|vZ<|vn) (λ_=>ug C1 (λ_ _ hr=>⟨by rw[hr.1,hr.2],rfl⟩)) O ?_);refine wk 3 λh=>?_
  refine dP O O<|aV oP sz4 dZ O O J ?_;refine wk 8 λh=>?_
  refine cZ h O (λB5 h=>?_) (λB5 h=>?_)
  ·refine wk 6 λh=>?_
   exact uZ<|ah (v:=.Sm) O<|ah (v:=bd 36 r5) O<|am<|ak H RE<|hN _ h
  refine wk 5 λh G6 h=>?_;exact⟨((x2+1),(Qt x3 x2 r4)),(Rm.trans (Rm.ow (k:=23) (o':=.arr 2 [.agg [.sl 1 W 39 g4 0 x1.length,.sl 1 W 50 g7 0 ((Qt x3 x2 r4).length)]]) O (OW.one<|SG.US<|vZ<|QJ (VW.QO QK)<|vn)) (canon (kD<|fn)<|mK O O O O<|sn)),h⟩
 refine wk 7 λh=>?_
 exact uZ<|ah (v:=.ptr W 23 g2 0 0) O<|ah (v:=.Qg) O<|am<|oq qr H [(23,g2,.arr 2 [.agg [.sl 1 W 39 g4 0 x1.length,.sl 1 W 50 g7 0 x3.length]],TF),(39,g4,.arr 1 (List.map iZ x1),TE),(50,g7,.arr 1 (List.map AV.bool x3),TC)] ⟨rfl,rfl,rfl,rfl,rfl,rfl,trivial⟩ (λγ=>.tuple [.ptr qr TF (γ 0) 0 0,bd 36 none]) (λγ=>[(qr,TF,.arr 2 [.agg [.sl 1 qr TE (γ 1) 0 x1.length,.sl 1 qr TC (γ 2) 0 x3.length]],γ 0),(qr,TE,.arr 1 (List.map iZ x1),γ 1),(qr,TC,.arr 1 (List.map AV.bool x3),γ 2)]) (λγ=>pg (H9<|mq (CL 1 O)<|mq (CL 2 O)<|CN)<|pg (rh)<|pg (rh)<|H7) (λγ=>D0<|mq (H' 0 O)<|mq (D1)<|CN) (λγ=>L _ _ _ _ _ _ h)
theorem gY{c k2:Int}{u:List Int}{q0 k0 g0 q1 k1 g1:Nat}(K:DK [(q0,k0),(q1,k1)]){Q:Int->Prop}(h:dJ c k2 u Q)(L:∀r1,Q r1->R (iZ r1) (Qk S [(q0,k0,.arr 1 [.sl 1 q1 k1 g1 0 u.length],g0),(q1,k1,.arr 1 (List.map iZ u),g1)])):Ctr prog 93 [iZ c,iZ k2,.ptr q0 k0 g0 0 0] (Qk S [(q0,k0,.arr 1 [.sl 1 q1 k1 g1 0 u.length],g0),(q1,k1,.arr 1 (List.map iZ u),g1)]) R:=by
 refine ar func93 rfl ntmps93 results93 Ql (λW H=>?_);have D:=(λ{X:cd} (_:∀k,Qk S X W k=none) (h:DX X)=>h) H K;have F:=λX' e=>aJ (X':=X') e H;have A0:=ae D H 0 rfl;have A1:=ae D H 1 rfl;refine wk 11 λh J h=>?_;refine Qp h (λG h=>aj<|uY O O G<|aj<|sI O O dZ ?_);refine wk 2 λh=>?_
 exact uZ<|Qv (F _ O)<|L _ h
variable{Q:List Q3->Option Int->Prop}
theorem nW{q0 k0 g0 q1 k1 g1 q2 k2 g2:Nat}(K:DK [(q0,k0),(q1,k1),(q2,k2)])(h:ez events Q1 Q)(L:∀r1 r2,Q r1 r2->R (.tuple [eL mv r1,bd 36 r2]) (Qk S [(q0,k0,.arr 2 [.agg [.sl 1 q1 k1 g1 0 events.length,.sl 1 q2 k2 g2 0 Q1.length]],g0),(q1,k1,.arr 1 (List.map iZ events),g1),(q2,k2,.arr 1 (List.map AV.bool Q1),g2)])) :Ctr prog 44 [.ptr q0 k0 g0 0 0] (Qk S [(q0,k0,.arr 2 [.agg [.sl 1 q1 k1 g1 0 events.length,.sl 1 q2 k2 g2 0 Q1.length]],g0),(q1,k1,.arr 1 (List.map iZ events),g1),(q2,k2,.arr 1 (List.map AV.bool Q1),g2)]) R:=by
 refine ar func44 rfl ntmps44 results44 Ql (λW H=>?_);have D:=(λ{X:cd} (_:∀k,Qk S X W k=none) (h:DX X)=>h) H K;have F:=λX' e=>aJ (X':=X') e H;have A0:=ae D H 0 rfl;have A1:=ae D H 1 rfl;have A2:=ae D H 2 rfl;refine wk 18 λh G h=>?_;refine Qp h (λG1 h=>wZ W<|fk bW nC Rz (enc:=iZ) (z':=0) dg (kk:=1) O O O G1 (λg3=>?_))
 refine wk 16 λg4 h J h=>?_;refine Rf h (λy=>aC [(0,.ptr q0 k0 g0 0 0),(4,iZ (events.length:Int)),(5,.ptr W 5 g4 0 0),(31,iZ (events.length:Int)),(32,iZ y.1)]) (λy=>Qr (Qk S [(q0,k0,.arr 2 [.agg [.sl 1 q1 k1 g1 0 events.length,.sl 1 q2 k2 g2 0 Q1.length]],g0),(q1,k1,.arr 1 (List.map iZ events),g1),(q2,k2,.arr 1 (List.map AV.bool Q1),g2)]) W [(5,.arr 1 [.sl 1 W 28 g3 0 y.2.length],g4),(28,.arr 1 (List.map iZ y.2),g3)]) (Rm.trans (Rm.ow (k:=5) (o':=.arr 1 [.sl 1 W 28 g3 0 ((Qt (bA ((events.length:Int)+1) 0) 0 1).length)]) O (OW.one<|SG.US<|QJ (VW.QO QK)<|vn)) (canon (kD<|fZ<|fn)<|sc O<|sc O<|sn)) (λy _ h=>?_);obtain⟨x,x1⟩:=y;refine wk 5 λh=>?_
 refine cZ h O (λB h=>?_) (λB h=>?_)
 ·refine wk 8 λh=>?_
  refine Qp h (λG2 h=>Qp h (λJ1 h=>Qp h (λG3 h=>Qp h (λJ2 h=>Vc.Qf mixed W (λ_=>eo) Ql ?_))));refine wk 2 λh=>?_
  refine dP O O<|i_ O O G2 ?_;refine wk 2 λh=>?_
  refine dP O O<|aV bW Se dZ O O J1 ?_;refine wk 1 λh=>?_
  refine dP O O<|Iq O O G3<|dP O O<|aV bW Se dZ O O J2 ?_;refine wk 6 λh G4 h=>?_
  exact⟨((x+1),(Qt x1 (x+1)<|3*(P9 x1 x))),(Rm.trans (Rm.ow (k:=5) (o':=.arr 1 [.sl 1 W 28 g3 0 ((Qt x1 (x+1)<|3*(P9 x1 x)).length)]) O (OW.one<|SG.US<|QJ (VW.QO QK)<|vn)) (canon (kD<|fZ<|fn)<|sc O<|sc O<|sn)),h⟩
 refine wk 7 λh J3 h=>?_;refine Qp h (λG5 h=>wZ W<|fk oP Dq Ww (enc:=AV.bool) (z':=false) tA (kk:=1) O O O G5 (λg5=>?_))
 refine wk 4 λh=>?_
 refine wZ W<|gS (vs:=[]) (us:=[.ptr W 5 g4 0 0]) O O ?_;refine wk 10 λh=>?_
 refine Rf h (λy=>aC [(0,.ptr q0 k0 g0 0 0),(4,iZ (events.length:Int)),(5,.ptr W 5 g4 0 0),(7,.sl 1 W 49 g5 0 y.2.length),(8,.fn (.func 93) [] [.ptr W 5 g4 0 0]),(52,iZ ((Int.toNat<|P9 x1 (events.length:Int)):Int)),(53,iZ y.1)]) (λy=>Qr (Qk S [(q0,k0,.arr 2 [.agg [.sl 1 q1 k1 g1 0 events.length,.sl 1 q2 k2 g2 0 Q1.length]],g0),(q1,k1,.arr 1 (List.map iZ events),g1),(q2,k2,.arr 1 (List.map AV.bool Q1),g2)]) W [(5,.arr 1 [.sl 1 W 28 g3 0 x1.length],g4),(28,.arr 1 (List.map iZ x1),g3),(49,.arr 1 (List.map AV.bool y.2),g5)]) (canon (fZ<|fZ<|fZ<|fc (VW.QO QK)<|fZ<|fZ<|fZ<|fn)<|sc O<|sc O<|sc O<|sn) (λy _ h=>?_);obtain⟨x2,is⟩:=y;refine wk 5 λh=>?_
 refine cZ h O (λB1 h=>?_) (λB1 h=>?_)
 ·refine wk 20 λh=>?_
  refine Rf h (λy=>aC [(0,.ptr q0 k0 g0 0 0),(4,iZ (events.length:Int)),(5,.ptr W 5 g4 0 0),(7,.sl 1 W 49 g5 0 is.length),(8,.fn (.func 93) [] [.ptr W 5 g4 0 0]),(9,iZ x2),(10,iZ y.1),(11,iZ y.2.1),(52,iZ ((Int.toNat<|P9 x1 (events.length:Int)):Int)),(53,iZ x2),(56,iZ (events.length:Int)),(57,iZ y.2.2)]) (λy=>Qr (Qk S [(q0,k0,.arr 2 [.agg [.sl 1 q1 k1 g1 0 events.length,.sl 1 q2 k2 g2 0 Q1.length]],g0),(q1,k1,.arr 1 (List.map iZ events),g1),(q2,k2,.arr 1 (List.map AV.bool Q1),g2)]) W [(5,.arr 1 [.sl 1 W 28 g3 0 x1.length],g4),(28,.arr 1 (List.map iZ x1),g3),(49,.arr 1 (List.map AV.bool is),g5)]) Rj (λy _ h=>?_);obtain⟨row,Tn,x3⟩:=y;refine wk 5 λh=>?_
  refine cZ h O (λB2 h=>?_) (λB2 h=>?_)
  ·refine wk 13 λh=>?_
   refine aj<|Qn O<|bh (ac (aZ 5 O)<|ac (aZ 28 O)<|aG)<|gY Sk h λr h=>aM (ac (aZ 5 O)<|ac (aZ 28 O)<|aG) ?_
   refine wk 7 λh=>?_
   refine cZ h O (λB3 h=>?_) (λB3 h=>?_)
   ·refine wk 3 λh=>?_
    refine Qp h (λG6 h=>aj<|lz O O G6 ?_);exact wk 9999 trivial
   exact wk 9999 trivial
  exact wk 9999 trivial
 refine wk 13 λh=>?_
 refine Vc.V6 13 171 2 O dZ (λg6=>SB h (g4,g3,g5,g6) (λy=>aC [(0,.ptr q0 k0 g0 0 0),(5,.ptr W 5 y.2.1 0 0),(7,.sl 1 W 49 y.2.2.2.1 0 is.length),(8,.fn (.func 93) [] [.ptr W 5 y.2.1 0 0]),(13,.sl 2 W 171 y.2.2.2.2 0 y.1.2.length),(111,.sl 1 W 49 y.2.2.2.1 0 is.length),(112,iZ (is.length:Int)),(113,iZ y.1.1)]) (λy=>Qr (Qk S [(q0,k0,.arr 2 [.agg [.sl 1 q1 k1 g1 0 events.length,.sl 1 q2 k2 g2 0 Q1.length]],g0),(q1,k1,.arr 1 (List.map iZ events),g1),(q2,k2,.arr 1 (List.map AV.bool Q1),g2)]) W [(5,.arr 1 [.sl 1 W 28 y.2.2.1 0 x1.length],y.2.1),(28,.arr 1 (List.map iZ x1),y.2.2.1),(49,.arr 1 (List.map AV.bool is),y.2.2.2.1),(171,.arr 2 (List.map mv y.1.2),y.2.2.2.2)]) (canon (kD<|fc (VW.QO QK)<|fZ<|fZ<|fZ<|fn)<|mK O O O O<|sn) (λy _ h=>?_));obtain⟨⟨x4,out⟩,⟨g7,g8,g9,g10⟩⟩:=y;refine wk 5 λh=>?_
 refine cZ h O (λB7 h=>?_) (λB7 h=>?_)
 ·refine wk 17 λh J12 h=>?_;refine cZ h O (λB8 h=>?_) (λB8 h=>?_);·exact wk 9999 trivial
  refine wk 20 λg11 h=>?_;refine SB h (g7,g11,g8,g9,g10) (λy=>aC [(0,.ptr q0 k0 g0 0 0),(5,.ptr W 5 y.2.1 0 0),(7,.sl 1 W 49 y.2.2.2.2.1 0 is.length),(8,.fn (.func 93) [] [.ptr W 5 y.2.1 0 0]),(13,.sl 2 W 171 y.2.2.2.2.2 0 out.length),(14,iZ x4),(16,.ptr W 16 y.2.2.1 0 0),(17,.bool y.1.1),(111,.sl 1 W 49 y.2.2.2.2.1 0 is.length),(112,iZ (is.length:Int)),(113,iZ x4),(123,.sl 1 q1 k1 g1 0 events.length),(124,iZ (events.length:Int)),(125,iZ y.1.2.1)]) (λy=>Qr (Qk S [(q0,k0,.arr 2 [.agg [.sl 1 q1 k1 g1 0 events.length,.sl 1 q2 k2 g2 0 Q1.length]],g0),(q1,k1,.arr 1 (List.map iZ events),g1),(q2,k2,.arr 1 (List.map AV.bool Q1),g2)]) W [(5,.arr 1 [.sl 1 W 28 y.2.2.2.1 0 x1.length],y.2.1),(16,.arr 2 [mv y.1.2.2],y.2.2.1),(28,.arr 1 (List.map iZ x1),y.2.2.2.1),(49,.arr 1 (List.map AV.bool is),y.2.2.2.2.1),(171,.arr 2 (List.map mv out),y.2.2.2.2.2)]) Rj (λy _ h=>?_);obtain⟨⟨Wv,x5,x6⟩,⟨g12,g13,g14,g15,g16⟩⟩:=y;refine wk 5 λh=>?_
  refine cZ h O (λB9 h=>?_) (λB9 h=>?_)
  ·refine wk 16 λh J13 h=>?_;refine aj<|Qn O<|bh (ac (aZ 5 O)<|ac (aZ 28 O)<|aG)<|gY Sk h λd h=>aM (ac (aZ 5 O)<|ac (aZ 28 O)<|aG) ?_
   refine wk 8 λh=>?_
   refine cZ h O (λB10 h=>?_) (λB10 h=>?_);·exact wk 9999 trivial
   refine kZ<|Ud (γ:=Nat×Nat×Nat×Nat×Nat) h (λy=>aC [(0,.ptr q0 k0 g0 0 0),(5,.ptr W 5 y.2.1 0 0),(7,.sl 1 W 49 y.2.2.2.2.1 0 is.length),(8,.fn (.func 93) [] [.ptr W 5 y.2.1 0 0]),(13,.sl 2 W 171 y.2.2.2.2.2 0 out.length),(14,iZ x4),(16,.ptr W 16 y.2.2.1 0 0),(17,.bool y.1),(19,iZ (P9 events x5)),(20,iZ d),(111,.sl 1 W 49 y.2.2.2.2.1 0 is.length),(112,iZ (is.length:Int)),(113,iZ x4),(123,.sl 1 q1 k1 g1 0 events.length),(124,iZ (events.length:Int)),(125,iZ x5)]) (λy=>Qr (Qk S [(q0,k0,.arr 2 [.agg [.sl 1 q1 k1 g1 0 events.length,.sl 1 q2 k2 g2 0 Q1.length]],g0),(q1,k1,.arr 1 (List.map iZ events),g1),(q2,k2,.arr 1 (List.map AV.bool Q1),g2)]) W [(5,.arr 1 [.sl 1 W 28 y.2.2.2.1 0 x1.length],y.2.1),(16,.arr 2 [mv x6],y.2.2.1),(28,.arr 1 (List.map iZ x1),y.2.2.2.1),(49,.arr 1 (List.map AV.bool is),y.2.2.2.2.1),(171,.arr 2 (List.map mv out),y.2.2.2.2.2)]) (λy h=>?_) (λ_ h=>?_)
   ·obtain⟨Wh,⟨g17,g18,g19,g20,g21⟩⟩:=y;refine wk 5 λh=>?_
    refine cZ h O (λB11 h=>?_) (λB11 h=>?_)
    ·refine Qp h (λG18 h=>Vc.Qf mixed W (λ_=>eo) Ql ?_);refine wk 3 λh=>?_
     refine dP O O<|lz O O G18 ?_;exact wk 9999 trivial
    refine Qp h (λG20 h=>Vc.Qf mixed W (λ_=>eo) Ql ?_);refine wk 3 λh=>?_
    refine dP O O<|lz O O G20 ?_;exact wk 9999 trivial
   exact wk 9999 trivial
  refine wk 5 λh=>?_
  refine cZ h O (λB13 h=>?_) (λB13 h=>?_)
  ·refine wk 3 λh=>?_
   refine wZ W<|aT NX Ok Lx (es:=[mv x6]) O (kk:=2) O O O O O O (λg22=>Qp h (λG25 h=>wZ W<|dD NX O6 Ok Lx (es:=out) (xs:=[x6]) (enc:=mv) (aZ 171 O) QK (bS (aZ 170 O) QK) (kk:=2) O O (λ_=>O) (λ_=>O) G25 O (λ_=>bm) (λg23=>?_)))
   exact wk 9999 trivial
  exact wk 9999 trivial
 refine wk 8 λh=>?_
 refine cZ h O (λYP h=>?_) (λYP h=>?_)
 ·refine wk 6 λh=>?_
  exact uZ<|ah (v:=.nil) O<|ah (v:=.iface 36 (iZ 4)) O<|am<|ak (F _ O) (VW.QF<|QJ (VW.QC)<|vZ<|vn)<|L _ _ h
 refine wk 4 λh=>?_
 refine aj<|Qn O<|bh (ac (aZ 171 O)<|aG)<|jE Sk h λRe h=>aM (aN (aG) bm)<|Qp h (λhl h=>?_)
 refine wk 7 λh=>?_
 exact uZ<|ah (v:=.sl 2 W 171 g10 0 out.length) O<|ah (v:=.Qg) O<|am<|aX (k:=171) (xs:=List.map mv Re) O (v':=.tuple [eL mv Re,.Qg]) (VW.QF<|QJ (aR QK)<|vZ<|vn)<|ak (F _ O) RE<|L _ _ h
theorem zS(h:jN f Q)(L:∀r1 r2,Q r1 r2->R (.tuple [eL mv r1,bd 36 r2]) S) :Ctr prog 16 [aD f] S R:=by
 refine ar func16 rfl ntmps16 results16 Ql (λW H=>?_);refine wk 9 λg1 h=>?_;refine aj<|Qn O<|tO W 900000 900001 900002 h (λr h=>?_) (λevents Q1 r g2 g3 g4 h=>?_)
 ·replace h:=h.1 rfl;refine wk 12 λh=>?_
  refine cZ h O (λB1 h=>?_) (λB1 h=>?_)
  ·refine wk 6 λh=>?_
   exact uZ<|ah (v:=.nil) O<|ah (v:=bd 36 r) O<|am<|ak H (VW.QF<|QJ (VW.QC)<|vZ<|vn)<|L _ _ h
  exact kZ<|dj<|Uk .Sm O h.elim
 replace h:=h.2 (events,Q1) rfl;refine aM (aN (aN (aN (aG) bm) bm) bm) ?_;refine wk 12 λh=>?_
 refine cZ h O (λB h=>?_) (λB h=>?_)
 ·refine wk 6 λh=>?_
  exact uZ<|ah (v:=.nil) O<|ah (v:=bd 36 r) O<|am<|ak H (VW.QF<|QJ (VW.QC)<|vZ<|vn)<|L _ _ h
 refine wk 4 λh=>?_
 refine aj<|Qn O<|bh (ac (aZ 900000 O)<|ac (aZ 900001 O)<|ac (aZ 900002 O)<|aG)<|nW Sk h λr1 r2 h=>aM (ac (aZ 900000 O)<|ac (aZ 900001 O)<|ac (aZ 900002 O)<|aG) ?_
 refine wk 5 λh=>?_
 exact uZ<|ah (v:=eL mv r1) O<|ah (v:=bd 36 r2) O<|am<|ak H RE<|L _ _ h
end Go.Proofs.YtbnjpdocceckeaaGreat
