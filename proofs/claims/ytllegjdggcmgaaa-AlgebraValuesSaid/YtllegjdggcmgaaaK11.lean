/- Walks of functions. Conditions: none. -/
import Derived.Test.YtllegjdggcmgaaaWa
import Derived.Test.YtllegjdggcmgaaaGgTy
import Derived.Test.YtllegjdggcmgaaaGd
import Derived.Test.YtllegjdggcmgaaaK1
import Derived.Test.YtllegjdggcmgaaaK9
import Derived.Test.YtllegjdggcmgaaaK3
import Derived.Test.YtllegjdggcmgaaaK2
/- Walks of functions. Conditions: none. -/
namespace Go.Proofs.Ytllegjdggcmgaaa
open Go.Gg
set_option maxRecDepth 100000
theorem decision_Table__Xor__e_ctr {a : Int} {b : Int} {order : List Int} {place : List Int} {nodes : List GDNode} {unique : GMap Int} {memo : GMap Int} {q0 k0 g0 q1 k1 g1 q2 k2 g2 q3 k3 g3 q4 k4 g4 q5 k5 g5 : Nat} (hdk : DK [(q0, k0), (q3, k3), (q4, k4), (q5, k5), (q1, k1), (q2, k2)]) {Q : List GDNode → GMap Int → GMap Int → Int → Prop} {S : St} {R : AV → St → Prop} (h : decision_Table__Xor__e_W a b order place nodes unique memo Q) (hQ : ∀ r1 r2 r3 r4, ∀ h3, Q r1 r2 r3 r4 → R (AV.int .i64 r4) (stX S [(q0, k0, .arr 5 [.agg [.sl 1 q1 k1 g1 0 order.length, .sl 1 q2 k2 g2 0 place.length, .sl 3 q3 k3 h3 0 r1.length, .map q4 k4 g4, .map q5 k5 g5]], g0), (q3, k3, .arr 3 (List.map eDNode r1), h3), (q4, k4, mapE (AV.int .i64) (.many [.i64, .i64, .i64]) r2, g4), (q5, k5, mapE (AV.int .i64) (.many [.i64, .i64, .i64]) r3, g5), (q1, k1, .arr 1 (List.map (AV.int .i64) order), g1), (q2, k2, .arr 1 (List.map (AV.int .i64) place), g2)])) :
    Ctr Try.prog 134 [.ptr q0 k0 g0 0 0, AV.int .i64 a, AV.int .i64 b] (stX S [(q0, k0, .arr 5 [.agg [.sl 1 q1 k1 g1 0 order.length, .sl 1 q2 k2 g2 0 place.length, .sl 3 q3 k3 g3 0 nodes.length, .map q4 k4 g4, .map q5 k5 g5]], g0), (q3, k3, .arr 3 (List.map eDNode nodes), g3), (q4, k4, mapE (AV.int .i64) (.many [.i64, .i64, .i64]) unique, g4), (q5, k5, mapE (AV.int .i64) (.many [.i64, .i64, .i64]) memo, g5), (q1, k1, .arr 1 (List.map (AV.int .i64) order), g1), (q2, k2, .arr 1 (List.map (AV.int .i64) place), g2)]) R := by
  unfold decision_Table__Xor__e_W at h
  refine enterT Try.func134 rfl Try.ntmps134 Try.results134 (by kernel_rfl) (fun rg hrg => ?_)
  have hdx : DX [(q0, k0, .arr 5 [.agg [.sl 1 q1 k1 g1 0 order.length, .sl 1 q2 k2 g2 0 place.length, .sl 3 q3 k3 g3 0 nodes.length, .map q4 k4 g4, .map q5 k5 g5]], g0), (q3, k3, .arr 3 (List.map eDNode nodes), g3), (q4, k4, mapE (AV.int .i64) (.many [.i64, .i64, .i64]) unique, g4), (q5, k5, mapE (AV.int .i64) (.many [.i64, .i64, .i64]) memo, g5), (q1, k1, .arr 1 (List.map (AV.int .i64) order), g1), (q2, k2, .arr 1 (List.map (AV.int .i64) place), g2)] := hdk
  have hfr := fun X' e => fresh_set (S := S) (rg := rg) (X := [(q0, k0, .arr 5 [.agg [.sl 1 q1 k1 g1 0 order.length, .sl 1 q2 k2 g2 0 place.length, .sl 3 q3 k3 g3 0 nodes.length, .map q4 k4 g4, .map q5 k5 g5]], g0), (q3, k3, .arr 3 (List.map eDNode nodes), g3), (q4, k4, mapE (AV.int .i64) (.many [.i64, .i64, .i64]) unique, g4), (q5, k5, mapE (AV.int .i64) (.many [.i64, .i64, .i64]) memo, g5), (q1, k1, .arr 1 (List.map (AV.int .i64) order), g1), (q2, k2, .arr 1 (List.map (AV.int .i64) place), g2)]) (X' := X') e hrg
  have hne0 := fresh_ne hdx hrg 0 rfl
  have hne3 := fresh_ne hdx hrg 1 rfl
  have hne4 := fresh_ne hdx hrg 2 rfl
  have hne5 := fresh_ne hdx hrg 3 rfl
  have hne1 := fresh_ne hdx hrg 4 rfl
  have hne2 := fresh_ne hdx hrg 5 rfl
  refine qZ (rZ (asZ (.int .i64 0) rfl (nZ (qZ (rZ (mvZ (.ptr q0 k0 g0 0 0) rfl (mvZ (.int .i64 a) rfl (mvZ (.ptr q0 k0 g0 0 0) rfl (mvZ (.int .i64 b) rfl ?_)))))))))
  refine wZ rg (o_call (us := [.ptr q0 k0 g0 0 0, AV.int .i64 b]) rfl (vl' vr (vl' vr (vn))) (ctrX (sx_c (atX hne0 hdx 0 rfl) (sx_c (atX hne3 hdx 1 rfl) (sx_c (atX hne4 hdx 2 rfl) (sx_c (atX hne5 hdx 3 rfl) (sx_c (atX hne1 hdx 4 rfl) (sx_c (atX hne2 hdx 5 rfl) (sx_n))))))) (decision_Table__Not__e_ctr (dk_c (ni_c (dk_at 0 1 hdk rfl rfl rfl) (ni_c (dk_at 0 2 hdk rfl rfl rfl) (ni_c (dk_at 0 3 hdk rfl rfl rfl) (ni_c (dk_at 0 4 hdk rfl rfl rfl) (ni_c (dk_at 0 5 hdk rfl rfl rfl) (ni_n)))))) (dk_c (ni_c (dk_at 1 2 hdk rfl rfl rfl) (ni_c (dk_at 1 3 hdk rfl rfl rfl) (ni_c (dk_at 1 4 hdk rfl rfl rfl) (ni_c (dk_at 1 5 hdk rfl rfl rfl) (ni_n))))) (dk_c (ni_c (dk_at 2 3 hdk rfl rfl rfl) (ni_c (dk_at 2 4 hdk rfl rfl rfl) (ni_c (dk_at 2 5 hdk rfl rfl rfl) (ni_n)))) (dk_c (ni_c (dk_at 3 4 hdk rfl rfl rfl) (ni_c (dk_at 3 5 hdk rfl rfl rfl) (ni_n))) (dk_c (ni_c (dk_at 4 5 hdk rfl rfl rfl) (ni_n)) (dk_c (ni_n) (dk_n))))))) h fun u u1 u2 r g6 h => ?_)))
  refine Wl.eqS (sy_c (sy_c (sy_c (sy_c (sx_c (atX hne1 hdx 4 rfl) (sx_c (atX hne2 hdx 5 rfl) (sx_n))) (setX hne5 hdx 3 rfl rfl)) (setX hne4 hdx 2 rfl rfl)) (setX hne3 hdx 1 rfl rfl)) (setX hne0 hdx 0 rfl rfl)) ?_
  refine mvZ (.int .i64 b) rfl ?_
  obtain ⟨_, h⟩ := h
  refine wZ rg (o_call (us := [.ptr q0 k0 g0 0 0, AV.int .i64 a, AV.int .i64 r, AV.int .i64 b]) rfl (vl' vr (vl' vr (vl' vr (vl' vr (vn))))) (ctrX (sx_c (atX hne0 hdx 0 rfl) (sx_c (atX hne3 hdx 1 rfl) (sx_c (atX hne4 hdx 2 rfl) (sx_c (atX hne5 hdx 3 rfl) (sx_c (atX hne1 hdx 4 rfl) (sx_c (atX hne2 hdx 5 rfl) (sx_n))))))) (decision_Table__Choose__e_ctr (dk_c (ni_c (dk_at 0 1 hdk rfl rfl rfl) (ni_c (dk_at 0 2 hdk rfl rfl rfl) (ni_c (dk_at 0 3 hdk rfl rfl rfl) (ni_c (dk_at 0 4 hdk rfl rfl rfl) (ni_c (dk_at 0 5 hdk rfl rfl rfl) (ni_n)))))) (dk_c (ni_c (dk_at 1 2 hdk rfl rfl rfl) (ni_c (dk_at 1 3 hdk rfl rfl rfl) (ni_c (dk_at 1 4 hdk rfl rfl rfl) (ni_c (dk_at 1 5 hdk rfl rfl rfl) (ni_n))))) (dk_c (ni_c (dk_at 2 3 hdk rfl rfl rfl) (ni_c (dk_at 2 4 hdk rfl rfl rfl) (ni_c (dk_at 2 5 hdk rfl rfl rfl) (ni_n)))) (dk_c (ni_c (dk_at 3 4 hdk rfl rfl rfl) (ni_c (dk_at 3 5 hdk rfl rfl rfl) (ni_n))) (dk_c (ni_c (dk_at 4 5 hdk rfl rfl rfl) (ni_n)) (dk_c (ni_n) (dk_n))))))) h fun u3 u4 u5 r1 g7 h => ?_)))
  refine Wl.eqS (sy_c (sy_c (sy_c (sy_c (sx_c (atX hne1 hdx 4 rfl) (sx_c (atX hne2 hdx 5 rfl) (sx_n))) (setX hne5 hdx 3 rfl rfl)) (setX hne4 hdx 2 rfl rfl)) (setX hne3 hdx 1 rfl rfl)) (setX hne0 hdx 0 rfl rfl)) ?_
  refine asZ (.int .i64 r1) rfl (nZ ?_)
  refine Vc.ret' ?_
  refine res_tmp (v := .int .i64 r1) rfl (res_nil ?_)
  show Gives _ (.int .i64 r1) _
  exact gives_out (hfr _ rfl) (VW.refl _) (hQ _ _ _ _ _ h)
end Go.Proofs.Ytllegjdggcmgaaa
/- Walks of functions. Conditions: none. -/
namespace Go.Proofs.Ytllegjdggcmgaaa
open Go.Gg
set_option maxRecDepth 100000
theorem algebra_both__decision_Table__Xor_ctr {a : GDiagram} {b : GDiagram} {Q : GDiagram → Option Int → Prop} {S : St} {R : AV → St → Prop} (h : algebra_both__decision_Table__Xor_W a b Q) (hQ : ∀ r1 r2, Q r1 r2 → R (.tuple [eDiagram r1, eErr 83 r2]) S) :
    Ctr Try.prog 131 [eDiagram a, eDiagram b, .fn (.func 134) [] []] S R := by
  unfold algebra_both__decision_Table__Xor_W at h
  refine enterT Try.func131 rfl Try.ntmps131 Try.results131 (by kernel_rfl) (fun rg hrg => ?_)
  refine qZ (rZ (wZ rg (o_box (v := eDiagram a) rfl rfl (kk := 3) rfl (by decide) (fun g1 => (wZ rg (o_box (v := eDiagram b) rfl rfl (kk := 3) rfl (by decide) (fun g2 => (wZ rg (o_alloc zav25 ok25 (kk := 3) rfl (fun g3 => (asZ .niface rfl (nZ (qZ (rZ (wZ rg (o_loadBA (atL (k := 3) rfl) sz25 (by decide) ag25 rfl rfl (v := eDiagram a) rfl ?_))))))))))))))))
  refine wZ rg (o_loadBA (atL (k := 4) rfl) sz25 (by decide) ag25 rfl rfl (v := eDiagram b) rfl (wZ rg (o_bslice td142 ok25 zav25 (es := [eDiagram a, eDiagram b]) rfl (kk := 3) rfl rfl rfl rfl rfl rfl (fun g4 => ?_))))
  refine Wl.wk (canon_freeze (k := 14) (xs := List.map eDiagram [a, b]) rfl (es := [(2, .fn (.func 134) [] []), (6, .ptr rg 6 g3 0 0), (14, eL eDiagram [a, b])]) (fc vr (fc vr (fc (frz_full rfl) (fn)))) (m := [(6, .arr 3 [.agg [.nil, .nil, .int .i64 0]], g3)]) (sc rfl (sn))) ?_
  refine wZ rg (o_call (us := [eL eDiagram [a, b]]) rfl (vl' vr (vn)) (algebra_open_ctr rg 1600000 1600001 1600002 1600003 1600004 1600005 h (fun r r1 h => ?_) (fun order place nodes unique memo r r1 g5 g6 g7 g8 g9 g10 h => ?_)))
  · replace h := h.1 rfl
    refine mvZ (.tuple [.nilp, eL (AV.int .i64) r, eErr 83 r1]) rfl (wZ rg (o_extract (v := .nilp) rfl rfl rfl (wZ rg (o_extract (v := eL (AV.int .i64) r) rfl rfl rfl (wZ rg (o_extract (v := eErr 83 r1) rfl rfl rfl (asZ .nilp rfl (asZ (eL (AV.int .i64) r) rfl (asZ (eErr 83 r1) rfl (nZ (qZ (qZ (rZ (mvZ (eErr 83 r1) rfl (wZ rg (o_isnon td29 (E := 83) rfl rfl rfl (nZ ?_)))))))))))))))))
    refine Vc.cond' rfl (fun hb1 => ?_) (fun hb1 => ?_)
    · replace h := h.1 hb1
      refine qZ (rZ (wZ rg (o_build td25 zav25 bok25 szs25 sz25 (ps := []) rfl rfl (v := .agg [.nil, .nil, .int .i64 0]) rfl (mvZ (eErr 83 r1) rfl (wZ rg (o_storeB (atL (k := 6) rfl) sz25 (by decide) rfl (w := .agg [.nil, .nil, .int .i64 0]) rfl rfl rfl (v := .agg [.nil, .nil, .int .i64 0]) rfl setL (asZ (eErr 83 r1) rfl (nZ ?_))))))))
      refine Vc.ret' ?_
      refine res_cellA (atL (k := 6) rfl) sz25 (by decide) ag25 rfl rfl (v := .agg [.nil, .nil, .int .i64 0]) rfl (res_tmp (v := eErr 83 r1) rfl (res_nil ?_))
      show Gives _ (.tuple [.agg [.nil, .nil, .int .i64 0], eErr 83 r1]) _
      exact gives_out hrg (VW.tupL (vl' (VW.aggL (vl' (VW.nilL) (vl' (VW.nilL) (vl' vr (vn))))) (vl' vr (vn)))) (hQ _ _ h)
    replace h := h.2 hb1
    refine Vc.skip' ?_
    refine qZ ?_
    exact h.elim
  replace h := h.2 (order, place, nodes, unique, memo) rfl
  refine Wl.eqS (sy_c (sy_c (sy_c (sy_c (sy_c (sy_c (sx_n) setL) setL) setL) setL) setL) setL) ?_
  refine mvZ (.tuple [.ptr rg 1600000 g5 0 0, eL (AV.int .i64) r, eErr 83 r1]) rfl (wZ rg (o_extract (v := .ptr rg 1600000 g5 0 0) rfl rfl rfl (wZ rg (o_extract (v := eL (AV.int .i64) r) rfl rfl rfl (wZ rg (o_extract (v := eErr 83 r1) rfl rfl rfl (asZ (.ptr rg 1600000 g5 0 0) rfl (asZ (eL (AV.int .i64) r) rfl (asZ (eErr 83 r1) rfl (nZ (qZ (qZ (rZ (mvZ (eErr 83 r1) rfl ?_))))))))))))))
  refine wZ rg (o_isnon td29 (E := 83) rfl rfl rfl (nZ ?_))
  refine Vc.cond' rfl (fun hb => ?_) (fun hb => ?_)
  · replace h := h.1 hb
    refine qZ (rZ (wZ rg (o_build td25 zav25 bok25 szs25 sz25 (ps := []) rfl rfl (v := .agg [.nil, .nil, .int .i64 0]) rfl (mvZ (eErr 83 r1) rfl (wZ rg (o_storeB (atL (k := 6) rfl) sz25 (by decide) rfl (w := .agg [.nil, .nil, .int .i64 0]) rfl rfl rfl (v := .agg [.nil, .nil, .int .i64 0]) rfl setL (asZ (eErr 83 r1) rfl (nZ ?_))))))))
    refine Vc.ret' ?_
    refine res_cellA (atL (k := 6) rfl) sz25 (by decide) ag25 rfl rfl (v := .agg [.nil, .nil, .int .i64 0]) rfl (res_tmp (v := eErr 83 r1) rfl (res_nil ?_))
    show Gives _ (.tuple [.agg [.nil, .nil, .int .i64 0], eErr 83 r1]) _
    exact gives_out hrg (VW.tupL (vl' (VW.aggL (vl' (VW.nilL) (vl' (VW.nilL) (vl' vr (vn))))) (vl' vr (vn)))) (hQ _ _ h)
  replace h := h.2 hb
  refine Vc.skip' ?_
  refine qZ ?_
  have hg := h.1
  replace h := h.2
  have hg1 := h.1
  replace h := h.2
  obtain ⟨u, u1, u2, r2, hc, h⟩ := h
  obtain ⟨r3, r4, hc1, h⟩ := h
  refine Vc.drawn' mixed rg (usOf [(9, wc (fun _ => .int .i64 r2) [(rg, 1600001), (rg, 1600002)] [(rg, 1600000), (rg, 1600003), (rg, 1600004), (rg, 1600005)] (fun gm => [(rg, 1600000, .arr 5 [.agg [.sl 1 rg 1600001 g6 0 order.length, .sl 1 rg 1600002 g7 0 place.length, .sl 3 rg 1600003 (gm 0) 0 u.length, .map rg 1600004 g9, .map rg 1600005 g10]], g5), (rg, 1600003, .arr 3 (List.map eDNode u), (gm 0)), (rg, 1600004, mapE (AV.int .i64) (.many [.i64, .i64, .i64]) u1, g9), (rg, 1600005, mapE (AV.int .i64) (.many [.i64, .i64, .i64]) u2, g10)])), (10, wc (fun _ => .tuple [eDiagram r3, eErr 83 r4]) [(rg, 1600000), (rg, 1600001), (rg, 1600002), (rg, 1600003), (rg, 1600004), (rg, 1600005)] [] (fun _ => []))]) (by kernel_rfl) ?_
  refine dP rfl rfl (o_move (v := .ptr rg 1600000 g5 0 0) rfl (dP rfl rfl (o_move (v := .fn (.func 134) [] []) rfl (dP rfl rfl (o_move (v := .ptr rg 1600000 g5 0 0) rfl (dP rfl rfl (o_move (v := eL (AV.int .i64) r) rfl (dP rfl rfl (o_idxL td22 sz3 (by decide) (fun _ => rfl) rfl rfl hg (dP rfl rfl (o_loadI1 sz3 ag3 rfl rfl (v := .int .i64 (at' r 0)) rfl ?_)))))))))))
  refine dP rfl rfl (o_move (v := eL (AV.int .i64) r) rfl (dP rfl rfl (o_idxL td22 sz3 (by decide) (fun _ => rfl) rfl rfl hg1 (dP rfl rfl (o_loadI1 sz3 ag3 rfl rfl (v := .int .i64 (at' r 1)) rfl ?_)))))
  refine dCE (vs := [.ptr rg 1600000 g5 0 0, AV.int .i64 (at' r 0), AV.int .i64 (at' r 1)]) (V := fun _ => .int .i64 r2) (rd := [(rg, 1600001), (rg, 1600002)]) (wk := [(rg, 1600000), (rg, 1600003), (rg, 1600004), (rg, 1600005)]) (wr := fun gm => [(rg, 1600000, .arr 5 [.agg [.sl 1 rg 1600001 g6 0 order.length, .sl 1 rg 1600002 g7 0 place.length, .sl 3 rg 1600003 (gm 0) 0 u.length, .map rg 1600004 g9, .map rg 1600005 g10]], g5), (rg, 1600003, .arr 3 (List.map eDNode u), (gm 0)), (rg, 1600004, mapE (AV.int .i64) (.many [.i64, .i64, .i64]) u1, g9), (rg, 1600005, mapE (AV.int .i64) (.many [.i64, .i64, .i64]) u2, g10)]) rfl (vl' vr (vl' vr (vl' vr (vn)))) rfl (cfn) (by simp) (fun _ => rfl) (fun S' hA hB => ctrX (sx_c (ag hB 0 rfl (atL (k := 1600000) rfl)) (sx_c (ag hB 1 rfl (atL (k := 1600003) rfl)) (sx_c (ag hB 2 rfl (atL (k := 1600004) rfl)) (sx_c (ag hB 3 rfl (atL (k := 1600005) rfl)) (sx_c (ag hA 0 rfl (atL (k := 1600001) rfl)) (sx_c (ag hA 1 rfl (atL (k := 1600002) rfl)) (sx_n))))))) (decision_Table__Xor__e_ctr (dk_c (ni_c (ni_o rfl) (ni_c (ni_o rfl) (ni_c (ni_o rfl) (ni_c (ni_o rfl) (ni_c (ni_o rfl) (ni_n)))))) (dk_c (ni_c (ni_o rfl) (ni_c (ni_o rfl) (ni_c (ni_o rfl) (ni_c (ni_o rfl) (ni_n))))) (dk_c (ni_c (ni_o rfl) (ni_c (ni_o rfl) (ni_c (ni_o rfl) (ni_n)))) (dk_c (ni_c (ni_o rfl) (ni_c (ni_o rfl) (ni_n))) (dk_c (ni_c (ni_o rfl) (ni_n)) (dk_c (ni_n) (dk_n))))))) hc (fun _ _ _ _ h3 he => by obtain ⟨rfl, rfl, rfl, rfl⟩ := he; exact ⟨fun i => [h3].getD i 0, rfl, sm_c (sm_c (sm_c (sm_c (sx_c (ag hA 0 rfl (atL (k := 1600001) rfl)) (sx_c (ag hA 1 rfl (atL (k := 1600002) rfl)) (sx_n))))))⟩))) (fun gm => ?_)
  refine vdT.eqS (sa_c (sa_c (sa_c (sa_c (sa_n) setL) setL) setL) setL) ?_
  refine dCE (vs := [.ptr rg 1600000 g5 0 0, AV.int .i64 r2]) (V := fun _ => .tuple [eDiagram r3, eErr 83 r4]) (rd := [(rg, 1600000), (rg, 1600001), (rg, 1600002), (rg, 1600003), (rg, 1600004), (rg, 1600005)]) (wk := []) (wr := fun _ => []) rfl (vl' vr (vl' vr (vn))) rfl (cfo (by kernel_rfl) (cfn)) (by simp) (fun _ => rfl) (fun S' hA hB => ctrX (sx_c (ag hA 0 rfl (atL (k := 1600000) rfl)) (sx_c (ag hA 1 rfl (atL (k := 1600001) rfl)) (sx_c (ag hA 2 rfl (atL (k := 1600002) rfl)) (sx_c (ag hA 3 rfl (atL (k := 1600003) rfl)) (sx_c (ag hA 4 rfl (atL (k := 1600004) rfl)) (sx_c (ag hA 5 rfl (atL (k := 1600005) rfl)) (sx_n))))))) (algebra_result__e_ctr (dk_c (ni_c (ni_o rfl) (ni_c (ni_o rfl) (ni_c (ni_o rfl) (ni_c (ni_o rfl) (ni_c (ni_o rfl) (ni_n)))))) (dk_c (ni_c (ni_o rfl) (ni_c (ni_o rfl) (ni_c (ni_o rfl) (ni_c (ni_o rfl) (ni_n))))) (dk_c (ni_c (ni_o rfl) (ni_c (ni_o rfl) (ni_c (ni_o rfl) (ni_n)))) (dk_c (ni_c (ni_o rfl) (ni_c (ni_o rfl) (ni_n))) (dk_c (ni_c (ni_o rfl) (ni_n)) (dk_c (ni_n) (dk_n))))))) hc1 (fun _ _ he => by obtain ⟨rfl, rfl⟩ := he; exact ⟨fun i => ([] : List Nat).getD i 0, rfl, sx_c (ag hA 0 rfl (atL (k := 1600000) rfl)) (sx_c (ag hA 1 rfl (atL (k := 1600001) rfl)) (sx_c (ag hA 2 rfl (atL (k := 1600002) rfl)) (sx_c (ag hA 3 rfl (atL (k := 1600003) rfl)) (sx_c (ag hA 4 rfl (atL (k := 1600004) rfl)) (sx_c (ag hA 5 rfl (atL (k := 1600005) rfl)) (sx_n))))))⟩))) (fun _ => ?_)
  refine vdT.eqS (sa_n) ?_
  refine dP rfl rfl (o_extract (v := eDiagram r3) rfl rfl rfl (dP rfl rfl (o_extract (v := eErr 83 r4) rfl rfl rfl (dL (E := ([], [(rg, 6)])) rfl rfl (by simp) (cfo (by kernel_rfl) (cfo (by kernel_rfl) (cfn))) (o_storeB (atL (k := 6) rfl) sz25 (by decide) rfl (w := eDiagram r3) rfl rfl rfl (v := eDiagram r3) rfl setL (dP rfl rfl (o_assign (v := eErr 83 r4) rfl (dN ?_))))))))
  refine Vc.ret' ?_
  refine res_cellA (atL (k := 6) rfl) sz25 (by decide) ag25 rfl rfl (v := eDiagram r3) rfl (res_tmp (v := eErr 83 r4) rfl (res_nil ?_))
  show Gives _ (.tuple [eDiagram r3, eErr 83 r4]) _
  exact gives_out hrg (VW.tupL (vl' vr (vl' vr (vn)))) (hQ _ _ h)
theorem algebra_Xor_ctr {a : GDiagram} {b : GDiagram} {Q : GDiagram → Option Int → Prop} {S : St} {R : AV → St → Prop} (h : algebra_Xor_W a b Q) (hQ : ∀ r1 r2, Q r1 r2 → R (.tuple [eDiagram r1, eErr 83 r2]) S) :
    Ctr Try.prog 48 [eDiagram a, eDiagram b] S R := by
  unfold algebra_Xor_W at h
  refine enterT Try.func48 rfl Try.ntmps48 Try.results48 (by kernel_rfl) (fun rg hrg => ?_)
  refine qZ (rZ (wZ rg (o_box (v := eDiagram a) rfl rfl (kk := 3) rfl (by decide) (fun g1 => (wZ rg (o_box (v := eDiagram b) rfl rfl (kk := 3) rfl (by decide) (fun g2 => (wZ rg (o_alloc zav25 ok25 (kk := 3) rfl (fun g3 => (asZ .niface rfl (nZ (qZ (rZ (wZ rg (o_loadBA (atL (k := 2) rfl) sz25 (by decide) ag25 rfl rfl (v := eDiagram a) rfl ?_))))))))))))))))
  refine wZ rg (o_loadBA (atL (k := 3) rfl) sz25 (by decide) ag25 rfl rfl (v := eDiagram b) rfl (wZ rg (o_call (us := [eDiagram a, eDiagram b, .fn (.func 134) [] []]) rfl (vl' vr (vl' vr (vl' vr (vn)))) (algebra_both__decision_Table__Xor_ctr h fun r r1 h => (wZ rg (o_extract (v := eDiagram r) rfl rfl rfl (wZ rg (o_extract (v := eErr 83 r1) rfl rfl rfl ?_))))))))
  refine wZ rg (o_storeB (atL (k := 4) rfl) sz25 (by decide) rfl (w := eDiagram r) rfl rfl rfl (v := eDiagram r) rfl setL (asZ (eErr 83 r1) rfl (nZ ?_)))
  refine Vc.ret' ?_
  refine res_cellA (atL (k := 4) rfl) sz25 (by decide) ag25 rfl rfl (v := eDiagram r) rfl (res_tmp (v := eErr 83 r1) rfl (res_nil ?_))
  show Gives _ (.tuple [eDiagram r, eErr 83 r1]) _
  exact gives_out hrg (VW.tupL (vl' vr (vl' vr (vn)))) (hQ _ _ h)
end Go.Proofs.Ytllegjdggcmgaaa
/- Walks of functions. Conditions: none. -/
namespace Go.Proofs.Ytllegjdggcmgaaa
open Go.Gg
set_option maxRecDepth 100000
theorem diagram_Value_ctr {d : GDiagram} {state : Int} {Q : Bool → Option Int → Prop} {S : St} {R : AV → St → Prop} (h : diagram_Value_W d state Q) (hQ : ∀ r1 r2, Q r1 r2 → R (.tuple [AV.bool r1, eErr 83 r2]) S) :
    Ctr Try.prog 57 [eDiagram d, AV.int .i64 state] S R := by
  unfold diagram_Value_W at h
  refine enterT Try.func57 rfl Try.ntmps57 Try.results57 (by kernel_rfl) (fun rg hrg => ?_)
  refine qZ (rZ (wZ rg (o_box (v := eDiagram d) rfl rfl (kk := 3) rfl (by decide) (fun g1 => (asZ (.bool false) rfl (asZ .niface rfl (nZ (qZ (qZ (rZ (wZ rg (o_loadBA (atL (k := 2) rfl) sz25 (by decide) ag25 rfl rfl (v := eDiagram d) rfl (wZ rg (o_call (us := [eDiagram d]) rfl (vl' vr (vn)) (diagram_Check_ctr h fun err h => (asZ (eErr 83 err) rfl (nZ (qZ (rZ (mvZ (eErr 83 err) rfl ?_))))))))))))))))))))
  refine wZ rg (o_isnon td29 (E := 83) rfl rfl rfl (nZ ?_))
  refine Vc.cond' rfl (fun hb => ?_) (fun hb => ?_)
  · replace h := h.1 hb
    refine qZ (rZ (mvZ (eErr 83 err) rfl (asZ (.bool false) rfl (asZ (eErr 83 err) rfl (nZ ?_)))))
    refine Vc.ret' ?_
    refine res_tmp (v := .bool false) rfl (res_tmp (v := eErr 83 err) rfl (res_nil ?_))
    show Gives _ (.tuple [.bool false, eErr 83 err]) _
    exact gives_out hrg (VW.tupL (vl' vr (vl' vr (vn)))) (hQ _ _ h)
  replace h := h.2 hb
  refine Vc.skip' ?_
  refine qZ ?_
  obtain ⟨J, h, hJ⟩ := h
  refine Vc.join' (σ := ((Bool) × (Nat))) (fun y => J y.1) (fun y => envOf [(1, .int .i64 state), (2, .ptr rg 2 y.2 0 0), (23, .bool y.1)]) (fun y => stL S rg [(2, .arr 3 [eDiagram d], y.2)]) (fun y h => ?_) ?_
  · obtain ⟨x, g2⟩ := y
    replace h := hJ x h
    show Vc _ _ _ _ (envOf [(1, .int .i64 state), (2, .ptr rg 2 g2 0 0), (23, .bool x)]) (stL S rg [(2, .arr 3 [eDiagram d], g2)])
    refine Vc.cond' rfl (fun hb1 => ?_) (fun hb1 => ?_)
    · replace h := h.1 hb1
      refine qZ (rZ (wZ rg (o_iface (by rw [td83]; trivial) (v := .int .i64 3) rfl (asZ (.bool false) rfl (asZ (.iface 83 (.int .i64 3)) rfl (nZ ?_))))))
      refine Vc.ret' ?_
      refine res_tmp (v := .bool false) rfl (res_tmp (v := .iface 83 (.int .i64 3)) rfl (res_nil ?_))
      show Gives _ (.tuple [.bool false, .iface 83 (.int .i64 3)]) _
      exact gives_out hrg (VW.tupL (vl' vr (vl' vr (vn)))) (hQ _ _ h)
    replace h := h.2 hb1
    refine Vc.skip' ?_
    refine qZ (rZ (wZ rg (o_faP td25 rfl rfl (by rw [sz3]; decide) rfl (wZ rg (o_loadB1 (atL (k := 2) rfl) sz3 ag3 rfl rfl (v := .int .i64 d.Root) rfl (asZ (.int .i64 d.Root) rfl (nZ (qZ ?_))))))))
    refine Vc.blk ?_
    obtain ⟨I, μ, h0, hI⟩ := h
    refine Vc.loop' (σ := (Int)) (fun y => I y) (fun y => μ y) (fun y => envOf [(1, .int .i64 state), (2, .ptr rg 2 g2 0 0), (7, .int .i64 y)]) (fun y => stL S rg [(2, .arr 3 [eDiagram d], g2)]) d.Root (canon (fc vr (fc vr (fc vr (fn)))) (sc rfl (sn))) h0 (fun r h => ?_)
    replace h := hI r h
    show Vc _ _ _ _ (envOf [(1, .int .i64 state), (2, .ptr rg 2 g2 0 0), (7, .int .i64 r)]) (stL S rg [(2, .arr 3 [eDiagram d], g2)])
    refine qZ (qZ (rZ (mvZ (.int .i64 r) rfl (wZ rg (o_geq rfl rfl (nZ ?_))))))
    refine Vc.cond' rfl (fun hb2 => ?_) (fun hb2 => ?_)
    · replace h := h.1 hb2
      refine Vc.skip' ?_
      refine Vc.blk ?_
      refine qZ (rZ (wZ rg (o_faP td25 rfl rfl (by rw [sz23]; decide) rfl (wZ rg (o_loadB1 (atL (k := 2) rfl) sz23 ag23 rfl rfl (v := eL eDNode d.Nodes) rfl (mvZ (.int .i64 r) rfl (wZ rg (o_subG rfl rfl h.1 ?_))))))))
      replace h := h.2
      refine wZ rg (o_idxL td23 sz134 (by decide) (fun _ => rfl) rfl rfl h.1 ?_)
      replace h := h.2
      refine wZ rg (o_loadIA sz134 (by decide) ag134 rfl rfl (v := eDNode (at' d.Nodes (r - 2))) rfl (wZ rg (o_alloc zav134 ok134 (kk := 3) rfl (fun g3 => (wZ rg (o_storeB (atL (k := 8) rfl) sz134 (by decide) rfl (w := eDNode (at' d.Nodes (r - 2))) rfl rfl rfl (v := eDNode (at' d.Nodes (r - 2))) rfl setL (nZ (qZ (rZ (mvZ (.int .i64 state) rfl (wZ rg (o_faP td134 rfl rfl (by rw [sz3]; decide) rfl ?_))))))))))))
      refine wZ rg (o_loadB1 (atL (k := 8) rfl) sz3 ag3 rfl rfl (v := .int .i64 ((at' d.Nodes (r - 2)).Var)) rfl (wZ rg (o_shr rfl rfl h.1 ?_)))
      replace h := h.2
      refine wZ rg (o_and rfl rfl (wZ rg (o_eql rfl rfl (nZ ?_))))
      refine Vc.cond' rfl (fun hb3 => ?_) (fun hb3 => ?_)
      · replace h := h.1 hb3
        refine rZ ?_
        refine wZ rg (o_faP td134 rfl rfl (by rw [sz3]; decide) rfl (wZ rg (o_loadB1 (atL (k := 8) rfl) sz3 ag3 rfl rfl (v := .int .i64 ((at' d.Nodes (r - 2)).Hi)) rfl (asZ (.int .i64 ((at' d.Nodes (r - 2)).Hi)) rfl (nZ ?_)))))
        exact ⟨(at' d.Nodes (r - 2)).Hi, (canon (fc vr (fc vr (fc vr (fn)))) (sc rfl (sn))), h⟩
      replace h := h.2 hb3
      refine rZ ?_
      refine wZ rg (o_faP td134 rfl rfl (by rw [sz3]; decide) rfl (wZ rg (o_loadB1 (atL (k := 8) rfl) sz3 ag3 rfl rfl (v := .int .i64 ((at' d.Nodes (r - 2)).Lo)) rfl (asZ (.int .i64 ((at' d.Nodes (r - 2)).Lo)) rfl (nZ ?_)))))
      exact ⟨(at' d.Nodes (r - 2)).Lo, (canon (fc vr (fc vr (fc vr (fn)))) (sc rfl (sn))), h⟩
    replace h := h.2 hb2
    refine Vc.exit' (exB_self ?_)
    refine qZ (rZ (mvZ (.int .i64 r) rfl (wZ rg (o_eql rfl rfl (asZ (.bool (r == 1)) rfl (asZ .niface rfl (nZ ?_)))))))
    refine Vc.ret' ?_
    refine res_tmp (v := .bool (r == 1)) rfl (res_tmp (v := .niface) rfl (res_nil ?_))
    show Gives _ (.tuple [.bool (r == 1), .niface]) _
    exact gives_out hrg (VW.tupL (vl' vr (vl' vr (vn)))) (hQ _ _ h)
  refine rZ ?_
  refine mvZ (.int .i64 state) rfl (wZ rg (o_lss rfl rfl (mvZ (.bool (decide (state < 0))) rfl ?_)))
  refine Wl.guard rfl rfl (fun hb4 => ?_) (fun hb4 => ?_)
  · replace h := h.2 hb4
    refine mvZ (.int .i64 state) rfl ?_
    refine Wl.guardT rfl rfl hb4 ?_
    refine wZ rg (o_faP td25 rfl rfl (by rw [sz22]; decide) rfl ?_)
    refine Wl.guardT rfl rfl hb4 ?_
    refine wZ rg (o_loadB1 (atL (k := 2) rfl) sz22 ag22 rfl rfl (v := eL (AV.int .i64) d.Order) rfl ?_)
    refine Wl.guardT rfl rfl hb4 ?_
    refine wZ rg (o_len td22 rfl ?_)
    refine Wl.guardT rfl rfl hb4 ?_
    refine wZ rg (o_shlG rfl rfl h.1 ?_)
    replace h := h.2
    refine Wl.guardT rfl rfl hb4 ?_
    refine wZ rg (o_geq rfl rfl (wZ rg (o_pickF rfl hb4 (v := .bool (decide ((1 * 2 ^ (Int.toNat (d.Order.length : Int))) ≤ state))) rfl (nZ ?_))))
    exact ⟨((decide ((1 * 2 ^ (Int.toNat (d.Order.length : Int))) ≤ state)), g1), (canon (fc vr (fc vr (fc vr (fn)))) (sc rfl (sn))), h⟩
  replace h := h.1 hb4
  refine Wl.guardF rfl rfl hb4 rfl ?_
  refine Wl.guardF rfl rfl hb4 rfl ?_
  refine Wl.guardF rfl rfl hb4 rfl ?_
  refine Wl.guardF rfl rfl hb4 rfl ?_
  refine Wl.guardF rfl rfl hb4 rfl ?_
  refine wZ rg (o_pickT rfl hb4 (v := .bool true) rfl (nZ ?_))
  exact ⟨(true, g1), (canon (fc vr (fc vr (fc vr (fn)))) (sc rfl (sn))), h⟩
end Go.Proofs.Ytllegjdggcmgaaa
