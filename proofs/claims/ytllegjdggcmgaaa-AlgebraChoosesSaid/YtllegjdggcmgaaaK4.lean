/- Walks of functions. Conditions: none. -/
import Derived.Test.YtllegjdggcmgaaaWa
import Derived.Test.YtllegjdggcmgaaaGgTy
import Derived.Test.YtllegjdggcmgaaaGd
import Derived.Test.YtllegjdggcmgaaaK3
import Derived.Test.YtllegjdggcmgaaaK1
import Derived.Test.YtllegjdggcmgaaaK2
/- Walks of functions. Conditions: none. -/
namespace Go.Proofs.Ytllegjdggcmgaaa
open Go.Gg
set_option maxRecDepth 100000
theorem algebra_Choose_ctr {c : GDiagram} {a : GDiagram} {b : GDiagram} {Q : GDiagram → Option Int → Prop} {S : St} {R : AV → St → Prop} (h : algebra_Choose_W c a b Q) (hQ : ∀ r1 r2, Q r1 r2 → R (.tuple [eDiagram r1, eErr 83 r2]) S) :
    Ctr Try.prog 53 [eDiagram c, eDiagram a, eDiagram b] S R := by
  unfold algebra_Choose_W at h
  refine enterT Try.func53 rfl Try.ntmps53 Try.results53 (by kernel_rfl) (fun rg hrg => ?_)
  refine qZ (rZ (wZ rg (o_box (v := eDiagram c) rfl rfl (kk := 3) rfl (by decide) (fun g1 => (wZ rg (o_box (v := eDiagram a) rfl rfl (kk := 3) rfl (by decide) (fun g2 => (wZ rg (o_box (v := eDiagram b) rfl rfl (kk := 3) rfl (by decide) (fun g3 => (wZ rg (o_alloc zav25 ok25 (kk := 3) rfl (fun g4 => (asZ .niface rfl (nZ (qZ (rZ ?_)))))))))))))))))
  refine wZ rg (o_loadBA (atL (k := 3) rfl) sz25 (by decide) ag25 rfl rfl (v := eDiagram c) rfl (wZ rg (o_loadBA (atL (k := 4) rfl) sz25 (by decide) ag25 rfl rfl (v := eDiagram a) rfl (wZ rg (o_loadBA (atL (k := 5) rfl) sz25 (by decide) ag25 rfl rfl (v := eDiagram b) rfl (wZ rg (o_bslice td142 ok25 zav25 (es := [eDiagram c, eDiagram a, eDiagram b]) rfl (kk := 3) rfl rfl rfl rfl rfl rfl (fun g5 => ?_))))))))
  refine Wl.wk (canon_freeze (k := 15) (xs := List.map eDiagram [c, a, b]) rfl (es := [(6, .ptr rg 6 g4 0 0), (15, eL eDiagram [c, a, b])]) (fc vr (fc (frz_full rfl) (fn))) (m := [(6, .arr 3 [.agg [.nil, .nil, .int .i64 0]], g4)]) (sc rfl (sn))) ?_
  refine wZ rg (o_call (us := [eL eDiagram [c, a, b]]) rfl (vl' vr (vn)) (algebra_open_ctr rg 1700000 1700001 1700002 1700003 1700004 1700005 h (fun r r1 h => ?_) (fun order place nodes unique memo r r1 g6 g7 g8 g9 g10 g11 h => ?_)))
  · replace h := h.1 rfl
    refine mvZ (.tuple [.nilp, eL (AV.int .i64) r, eErr 83 r1]) rfl (wZ rg (o_extract (v := .nilp) rfl rfl rfl (wZ rg (o_extract (v := eL (AV.int .i64) r) rfl rfl rfl (wZ rg (o_extract (v := eErr 83 r1) rfl rfl rfl (asZ .nilp rfl (asZ (eL (AV.int .i64) r) rfl (asZ (eErr 83 r1) rfl (nZ (qZ (qZ (rZ (mvZ (eErr 83 r1) rfl (wZ rg (o_isnon td29 (E := 83) rfl rfl rfl (nZ ?_)))))))))))))))))
    refine Vc.cond' rfl (fun hb1 => ?_) (fun hb1 => ?_)
    · replace h := h.1 hb1
      refine qZ (rZ (wZ rg (o_build td25 zav25 bok25 szs25 sz25 (ps := []) rfl rfl (v := .agg [.nil, .nil, .int .i64 0]) rfl (mvZ (eErr 83 r1) rfl (wZ rg (o_storeB (atL (k := 6) rfl) sz25 (by decide) rfl (w := .agg [.nil, .nil, .int .i64 0]) rfl rfl rfl (v := .agg [.nil, .nil, .int .i64 0]) rfl setL (asZ (eErr 83 r1) rfl (nZ ?_))))))))
      refine Vc.ret' ?_
      refine res_cellA (atL (k := 6) rfl) sz25 (by decide) ag25 rfl rfl (v := .agg [.nil, .nil, .int .i64 0]) rfl (res_tmp (v := eErr 83 r1) rfl (res_nil ?_))
      show Gives _ (.tuple [.agg [.nil, .nil, .int .i64 0], eErr 83 r1]) _
      exact gives_out hrg (VW.tupL (vl' (VW.aggL (vl' (VW.nilL) (vl' (VW.nilL) (vl' vr (vn))))) (vl' vr (vn)))) (hQ _ _ h)
    replace h := h.2 hb1
    refine Vc.skip' ?_
    refine qZ ?_
    exact h.elim
  replace h := h.2 (order, place, nodes, unique, memo) rfl
  refine Wl.eqS (sy_c (sy_c (sy_c (sy_c (sy_c (sy_c (sx_n) setL) setL) setL) setL) setL) setL) ?_
  refine mvZ (.tuple [.ptr rg 1700000 g6 0 0, eL (AV.int .i64) r, eErr 83 r1]) rfl (wZ rg (o_extract (v := .ptr rg 1700000 g6 0 0) rfl rfl rfl (wZ rg (o_extract (v := eL (AV.int .i64) r) rfl rfl rfl (wZ rg (o_extract (v := eErr 83 r1) rfl rfl rfl (asZ (.ptr rg 1700000 g6 0 0) rfl (asZ (eL (AV.int .i64) r) rfl (asZ (eErr 83 r1) rfl (nZ (qZ (qZ (rZ (mvZ (eErr 83 r1) rfl ?_))))))))))))))
  refine wZ rg (o_isnon td29 (E := 83) rfl rfl rfl (nZ ?_))
  refine Vc.cond' rfl (fun hb => ?_) (fun hb => ?_)
  · replace h := h.1 hb
    refine qZ (rZ (wZ rg (o_build td25 zav25 bok25 szs25 sz25 (ps := []) rfl rfl (v := .agg [.nil, .nil, .int .i64 0]) rfl (mvZ (eErr 83 r1) rfl (wZ rg (o_storeB (atL (k := 6) rfl) sz25 (by decide) rfl (w := .agg [.nil, .nil, .int .i64 0]) rfl rfl rfl (v := .agg [.nil, .nil, .int .i64 0]) rfl setL (asZ (eErr 83 r1) rfl (nZ ?_))))))))
    refine Vc.ret' ?_
    refine res_cellA (atL (k := 6) rfl) sz25 (by decide) ag25 rfl rfl (v := .agg [.nil, .nil, .int .i64 0]) rfl (res_tmp (v := eErr 83 r1) rfl (res_nil ?_))
    show Gives _ (.tuple [.agg [.nil, .nil, .int .i64 0], eErr 83 r1]) _
    exact gives_out hrg (VW.tupL (vl' (VW.aggL (vl' (VW.nilL) (vl' (VW.nilL) (vl' vr (vn))))) (vl' vr (vn)))) (hQ _ _ h)
  replace h := h.2 hb
  refine Vc.skip' ?_
  refine qZ ?_
  have hg := h.1
  replace h := h.2
  have hg1 := h.1
  replace h := h.2
  have hg2 := h.1
  replace h := h.2
  obtain ⟨u, u1, u2, r2, hc, h⟩ := h
  obtain ⟨_, hc⟩ := hc
  obtain ⟨r3, r4, hc1, h⟩ := h
  refine Vc.drawn' mixed rg (usOf [(11, wc (fun _ => .int .i64 r2) [(rg, 1700001), (rg, 1700002)] [(rg, 1700000), (rg, 1700003), (rg, 1700004), (rg, 1700005)] (fun gm => [(rg, 1700000, .arr 5 [.agg [.sl 1 rg 1700001 g7 0 order.length, .sl 1 rg 1700002 g8 0 place.length, .sl 3 rg 1700003 (gm 0) 0 u.length, .map rg 1700004 g10, .map rg 1700005 g11]], g6), (rg, 1700003, .arr 3 (List.map eDNode u), (gm 0)), (rg, 1700004, mapE (AV.int .i64) (.many [.i64, .i64, .i64]) u1, g10), (rg, 1700005, mapE (AV.int .i64) (.many [.i64, .i64, .i64]) u2, g11)])), (12, wc (fun _ => .tuple [eDiagram r3, eErr 83 r4]) [(rg, 1700000), (rg, 1700001), (rg, 1700002), (rg, 1700003), (rg, 1700004), (rg, 1700005)] [] (fun _ => []))]) (by kernel_rfl) ?_
  refine dP rfl rfl (o_move (v := .ptr rg 1700000 g6 0 0) rfl (dP rfl rfl (o_move (v := .ptr rg 1700000 g6 0 0) rfl (dP rfl rfl (o_move (v := eL (AV.int .i64) r) rfl (dP rfl rfl (o_idxL td22 sz3 (by decide) (fun _ => rfl) rfl rfl hg (dP rfl rfl (o_loadI1 sz3 ag3 rfl rfl (v := .int .i64 (at' r 0)) rfl (dP rfl rfl (o_move (v := eL (AV.int .i64) r) rfl ?_)))))))))))
  refine dP rfl rfl (o_idxL td22 sz3 (by decide) (fun _ => rfl) rfl rfl hg1 (dP rfl rfl (o_loadI1 sz3 ag3 rfl rfl (v := .int .i64 (at' r 1)) rfl (dP rfl rfl (o_move (v := eL (AV.int .i64) r) rfl (dP rfl rfl (o_idxL td22 sz3 (by decide) (fun _ => rfl) rfl rfl hg2 (dP rfl rfl (o_loadI1 sz3 ag3 rfl rfl (v := .int .i64 (at' r 2)) rfl ?_)))))))))
  refine dCE (vs := [.ptr rg 1700000 g6 0 0, AV.int .i64 (at' r 0), AV.int .i64 (at' r 1), AV.int .i64 (at' r 2)]) (V := fun _ => .int .i64 r2) (rd := [(rg, 1700001), (rg, 1700002)]) (wk := [(rg, 1700000), (rg, 1700003), (rg, 1700004), (rg, 1700005)]) (wr := fun gm => [(rg, 1700000, .arr 5 [.agg [.sl 1 rg 1700001 g7 0 order.length, .sl 1 rg 1700002 g8 0 place.length, .sl 3 rg 1700003 (gm 0) 0 u.length, .map rg 1700004 g10, .map rg 1700005 g11]], g6), (rg, 1700003, .arr 3 (List.map eDNode u), (gm 0)), (rg, 1700004, mapE (AV.int .i64) (.many [.i64, .i64, .i64]) u1, g10), (rg, 1700005, mapE (AV.int .i64) (.many [.i64, .i64, .i64]) u2, g11)]) rfl (vl' vr (vl' vr (vl' vr (vl' vr (vn))))) rfl (cfn) (by simp) (fun _ => rfl) (fun S' hA hB => ctrX (sx_c (ag hB 0 rfl (atL (k := 1700000) rfl)) (sx_c (ag hB 1 rfl (atL (k := 1700003) rfl)) (sx_c (ag hB 2 rfl (atL (k := 1700004) rfl)) (sx_c (ag hB 3 rfl (atL (k := 1700005) rfl)) (sx_c (ag hA 0 rfl (atL (k := 1700001) rfl)) (sx_c (ag hA 1 rfl (atL (k := 1700002) rfl)) (sx_n))))))) (decision_Table__Choose__e_ctr (dk_c (ni_c (ni_o rfl) (ni_c (ni_o rfl) (ni_c (ni_o rfl) (ni_c (ni_o rfl) (ni_c (ni_o rfl) (ni_n)))))) (dk_c (ni_c (ni_o rfl) (ni_c (ni_o rfl) (ni_c (ni_o rfl) (ni_c (ni_o rfl) (ni_n))))) (dk_c (ni_c (ni_o rfl) (ni_c (ni_o rfl) (ni_c (ni_o rfl) (ni_n)))) (dk_c (ni_c (ni_o rfl) (ni_c (ni_o rfl) (ni_n))) (dk_c (ni_c (ni_o rfl) (ni_n)) (dk_c (ni_n) (dk_n))))))) hc (fun _ _ _ _ h3 he => by obtain ⟨rfl, rfl, rfl, rfl⟩ := he; exact ⟨fun i => [h3].getD i 0, rfl, sm_c (sm_c (sm_c (sm_c (sx_c (ag hA 0 rfl (atL (k := 1700001) rfl)) (sx_c (ag hA 1 rfl (atL (k := 1700002) rfl)) (sx_n))))))⟩))) (fun gm => ?_)
  refine vdT.eqS (sa_c (sa_c (sa_c (sa_c (sa_n) setL) setL) setL) setL) ?_
  refine dCE (vs := [.ptr rg 1700000 g6 0 0, AV.int .i64 r2]) (V := fun _ => .tuple [eDiagram r3, eErr 83 r4]) (rd := [(rg, 1700000), (rg, 1700001), (rg, 1700002), (rg, 1700003), (rg, 1700004), (rg, 1700005)]) (wk := []) (wr := fun _ => []) rfl (vl' vr (vl' vr (vn))) rfl (cfo (by kernel_rfl) (cfn)) (by simp) (fun _ => rfl) (fun S' hA hB => ctrX (sx_c (ag hA 0 rfl (atL (k := 1700000) rfl)) (sx_c (ag hA 1 rfl (atL (k := 1700001) rfl)) (sx_c (ag hA 2 rfl (atL (k := 1700002) rfl)) (sx_c (ag hA 3 rfl (atL (k := 1700003) rfl)) (sx_c (ag hA 4 rfl (atL (k := 1700004) rfl)) (sx_c (ag hA 5 rfl (atL (k := 1700005) rfl)) (sx_n))))))) (algebra_result__e_ctr (dk_c (ni_c (ni_o rfl) (ni_c (ni_o rfl) (ni_c (ni_o rfl) (ni_c (ni_o rfl) (ni_c (ni_o rfl) (ni_n)))))) (dk_c (ni_c (ni_o rfl) (ni_c (ni_o rfl) (ni_c (ni_o rfl) (ni_c (ni_o rfl) (ni_n))))) (dk_c (ni_c (ni_o rfl) (ni_c (ni_o rfl) (ni_c (ni_o rfl) (ni_n)))) (dk_c (ni_c (ni_o rfl) (ni_c (ni_o rfl) (ni_n))) (dk_c (ni_c (ni_o rfl) (ni_n)) (dk_c (ni_n) (dk_n))))))) hc1 (fun _ _ he => by obtain ⟨rfl, rfl⟩ := he; exact ⟨fun i => ([] : List Nat).getD i 0, rfl, sx_c (ag hA 0 rfl (atL (k := 1700000) rfl)) (sx_c (ag hA 1 rfl (atL (k := 1700001) rfl)) (sx_c (ag hA 2 rfl (atL (k := 1700002) rfl)) (sx_c (ag hA 3 rfl (atL (k := 1700003) rfl)) (sx_c (ag hA 4 rfl (atL (k := 1700004) rfl)) (sx_c (ag hA 5 rfl (atL (k := 1700005) rfl)) (sx_n))))))⟩))) (fun _ => ?_)
  refine vdT.eqS (sa_n) ?_
  refine dP rfl rfl (o_extract (v := eDiagram r3) rfl rfl rfl (dP rfl rfl (o_extract (v := eErr 83 r4) rfl rfl rfl (dL (E := ([], [(rg, 6)])) rfl rfl (by simp) (cfo (by kernel_rfl) (cfo (by kernel_rfl) (cfn))) (o_storeB (atL (k := 6) rfl) sz25 (by decide) rfl (w := eDiagram r3) rfl rfl rfl (v := eDiagram r3) rfl setL (dP rfl rfl (o_assign (v := eErr 83 r4) rfl (dN ?_))))))))
  refine Vc.ret' ?_
  refine res_cellA (atL (k := 6) rfl) sz25 (by decide) ag25 rfl rfl (v := eDiagram r3) rfl (res_tmp (v := eErr 83 r4) rfl (res_nil ?_))
  show Gives _ (.tuple [eDiagram r3, eErr 83 r4]) _
  exact gives_out hrg (VW.tupL (vl' vr (vl' vr (vn)))) (hQ _ _ h)
theorem algebra_Compose_ctr {d : GDiagram} {i : Int} {g1 : GDiagram} {Q : GDiagram → Option Int → Prop} {S : St} {R : AV → St → Prop} (h : algebra_Compose_W d i g1 Q) (hQ : ∀ r1 r2, Q r1 r2 → R (.tuple [eDiagram r1, eErr 83 r2]) S) :
    Ctr Try.prog 54 [eDiagram d, AV.int .i64 i, eDiagram g1] S R := by
  unfold algebra_Compose_W at h
  refine enterT Try.func54 rfl Try.ntmps54 Try.results54 (by kernel_rfl) (fun rg hrg => ?_)
  refine qZ (rZ (wZ rg (o_box (v := eDiagram d) rfl rfl (kk := 3) rfl (by decide) (fun g2 => (wZ rg (o_box (v := eDiagram g1) rfl rfl (kk := 3) rfl (by decide) (fun g3 => (wZ rg (o_alloc zav25 ok25 (kk := 3) rfl (fun g4 => (asZ .niface rfl (nZ (qZ (rZ (wZ rg (o_loadBA (atL (k := 3) rfl) sz25 (by decide) ag25 rfl rfl (v := eDiagram d) rfl ?_))))))))))))))))
  refine wZ rg (o_loadBA (atL (k := 5) rfl) sz25 (by decide) ag25 rfl rfl (v := eDiagram g1) rfl (wZ rg (o_bslice td142 ok25 zav25 (es := [eDiagram d, eDiagram g1]) rfl (kk := 3) rfl rfl rfl rfl rfl rfl (fun g5 => ?_))))
  refine Wl.wk (canon_freeze (k := 14) (xs := List.map eDiagram [d, g1]) rfl (es := [(1, .int .i64 i), (3, .ptr rg 3 g2 0 0), (6, .ptr rg 6 g4 0 0), (14, eL eDiagram [d, g1])]) (fc vr (fc vr (fc vr (fc (frz_full rfl) (fn))))) (m := [(3, .arr 3 [eDiagram d], g2), (6, .arr 3 [.agg [.nil, .nil, .int .i64 0]], g4)]) (sc rfl (sc rfl (sn)))) ?_
  refine wZ rg (o_call (us := [eL eDiagram [d, g1]]) rfl (vl' vr (vn)) (algebra_open_ctr rg 1600000 1600001 1600002 1600003 1600004 1600005 h (fun r r1 h => ?_) (fun order place nodes unique memo r r1 g6 g7 g8 g9 g10 g11 h => ?_)))
  · replace h := h.1 rfl
    refine mvZ (.tuple [.nilp, eL (AV.int .i64) r, eErr 83 r1]) rfl (wZ rg (o_extract (v := .nilp) rfl rfl rfl (wZ rg (o_extract (v := eL (AV.int .i64) r) rfl rfl rfl (wZ rg (o_extract (v := eErr 83 r1) rfl rfl rfl (asZ .nilp rfl (asZ (eL (AV.int .i64) r) rfl (asZ (eErr 83 r1) rfl (nZ (qZ (qZ (rZ (mvZ (eErr 83 r1) rfl (wZ rg (o_isnon td29 (E := 83) rfl rfl rfl (nZ ?_)))))))))))))))))
    refine Vc.cond' rfl (fun hb3 => ?_) (fun hb3 => ?_)
    · replace h := h.1 hb3
      refine qZ (rZ (wZ rg (o_build td25 zav25 bok25 szs25 sz25 (ps := []) rfl rfl (v := .agg [.nil, .nil, .int .i64 0]) rfl (mvZ (eErr 83 r1) rfl (wZ rg (o_storeB (atL (k := 6) rfl) sz25 (by decide) rfl (w := .agg [.nil, .nil, .int .i64 0]) rfl rfl rfl (v := .agg [.nil, .nil, .int .i64 0]) rfl setL (asZ (eErr 83 r1) rfl (nZ ?_))))))))
      refine Vc.ret' ?_
      refine res_cellA (atL (k := 6) rfl) sz25 (by decide) ag25 rfl rfl (v := .agg [.nil, .nil, .int .i64 0]) rfl (res_tmp (v := eErr 83 r1) rfl (res_nil ?_))
      show Gives _ (.tuple [.agg [.nil, .nil, .int .i64 0], eErr 83 r1]) _
      exact gives_out hrg (VW.tupL (vl' (VW.aggL (vl' (VW.nilL) (vl' (VW.nilL) (vl' vr (vn))))) (vl' vr (vn)))) (hQ _ _ h)
    replace h := h.2 hb3
    refine Vc.skip' ?_
    refine qZ ?_
    obtain ⟨J, h, hJ⟩ := h
    refine Vc.join' (σ := ((Bool) × (Nat))) (fun y => J y.1) (fun y => envOf [(1, .int .i64 i), (6, .ptr rg 6 y.2 0 0), (8, .nilp), (9, eL (AV.int .i64) r), (31, .bool y.1)]) (fun y => stL S rg [(6, .arr 3 [.agg [.nil, .nil, .int .i64 0]], y.2)]) (fun y h => ?_) ?_
    · obtain ⟨x1, g19⟩ := y
      replace h := hJ x1 h
      show Vc _ _ _ _ (envOf [(1, .int .i64 i), (6, .ptr rg 6 g19 0 0), (8, .nilp), (9, eL (AV.int .i64) r), (31, .bool x1)]) (stL S rg [(6, .arr 3 [.agg [.nil, .nil, .int .i64 0]], g19)])
      refine Vc.cond' rfl (fun hb4 => ?_) (fun hb4 => ?_)
      · replace h := h.1 hb4
        refine qZ (rZ (wZ rg (o_build td25 zav25 bok25 szs25 sz25 (ps := []) rfl rfl (v := .agg [.nil, .nil, .int .i64 0]) rfl (wZ rg (o_iface (by rw [td83]; trivial) (v := .int .i64 10) rfl (wZ rg (o_storeB (atL (k := 6) rfl) sz25 (by decide) rfl (w := .agg [.nil, .nil, .int .i64 0]) rfl rfl rfl (v := .agg [.nil, .nil, .int .i64 0]) rfl setL (asZ (.iface 83 (.int .i64 10)) rfl (nZ ?_)))))))))
        refine Vc.ret' ?_
        refine res_cellA (atL (k := 6) rfl) sz25 (by decide) ag25 rfl rfl (v := .agg [.nil, .nil, .int .i64 0]) rfl (res_tmp (v := .iface 83 (.int .i64 10)) rfl (res_nil ?_))
        show Gives _ (.tuple [.agg [.nil, .nil, .int .i64 0], .iface 83 (.int .i64 10)]) _
        exact gives_out hrg (VW.tupL (vl' (VW.aggL (vl' (VW.nilL) (vl' (VW.nilL) (vl' vr (vn))))) (vl' vr (vn)))) (hQ _ _ h)
      replace h := h.2 hb4
      refine Vc.skip' ?_
      refine qZ ?_
      exact h.elim
    refine rZ ?_
    refine mvZ (.int .i64 i) rfl (wZ rg (o_lss rfl rfl (mvZ (.bool (decide (i < 0))) rfl ?_)))
    refine Wl.guard rfl rfl (fun hb5 => ?_) (fun hb5 => ?_)
    · replace h := h.2 hb5
      refine mvZ (.int .i64 i) rfl ?_
      refine Wl.guardT rfl rfl hb5 ?_
      refine wZ rg (o_faP td25 rfl rfl (by rw [sz22]; decide) rfl ?_)
      refine Wl.guardT rfl rfl hb5 ?_
      refine wZ rg (o_loadB1 (atL (k := 3) rfl) sz22 ag22 rfl rfl (v := eL (AV.int .i64) d.Order) rfl ?_)
      refine Wl.guardT rfl rfl hb5 ?_
      refine wZ rg (o_len td22 rfl ?_)
      refine Wl.guardT rfl rfl hb5 ?_
      refine wZ rg (o_geq rfl rfl (wZ rg (o_pickF rfl hb5 (v := .bool (decide ((d.Order.length : Int) ≤ i))) rfl (nZ ?_))))
      exact ⟨((decide ((d.Order.length : Int) ≤ i)), g4), (canon (fc vr (fc vr (fc vr (fc vr (fc vr (fn)))))) (sc rfl (sn))), h⟩
    replace h := h.1 hb5
    refine Wl.guardF rfl rfl hb5 rfl ?_
    refine Wl.guardF rfl rfl hb5 rfl ?_
    refine Wl.guardF rfl rfl hb5 rfl ?_
    refine Wl.guardF rfl rfl hb5 rfl ?_
    refine wZ rg (o_pickT rfl hb5 (v := .bool true) rfl (nZ ?_))
    exact ⟨(true, g4), (canon (fc vr (fc vr (fc vr (fc vr (fc vr (fn)))))) (sc rfl (sn))), h⟩
  replace h := h.2 (order, place, nodes, unique, memo) rfl
  refine Wl.eqS (sy_c (sy_c (sy_c (sy_c (sy_c (sy_c (sx_n) setL) setL) setL) setL) setL) setL) ?_
  refine mvZ (.tuple [.ptr rg 1600000 g6 0 0, eL (AV.int .i64) r, eErr 83 r1]) rfl (wZ rg (o_extract (v := .ptr rg 1600000 g6 0 0) rfl rfl rfl (wZ rg (o_extract (v := eL (AV.int .i64) r) rfl rfl rfl (wZ rg (o_extract (v := eErr 83 r1) rfl rfl rfl (asZ (.ptr rg 1600000 g6 0 0) rfl (asZ (eL (AV.int .i64) r) rfl (asZ (eErr 83 r1) rfl (nZ (qZ (qZ (rZ (mvZ (eErr 83 r1) rfl ?_))))))))))))))
  refine wZ rg (o_isnon td29 (E := 83) rfl rfl rfl (nZ ?_))
  refine Vc.cond' rfl (fun hb => ?_) (fun hb => ?_)
  · replace h := h.1 hb
    refine qZ (rZ (wZ rg (o_build td25 zav25 bok25 szs25 sz25 (ps := []) rfl rfl (v := .agg [.nil, .nil, .int .i64 0]) rfl (mvZ (eErr 83 r1) rfl (wZ rg (o_storeB (atL (k := 6) rfl) sz25 (by decide) rfl (w := .agg [.nil, .nil, .int .i64 0]) rfl rfl rfl (v := .agg [.nil, .nil, .int .i64 0]) rfl setL (asZ (eErr 83 r1) rfl (nZ ?_))))))))
    refine Vc.ret' ?_
    refine res_cellA (atL (k := 6) rfl) sz25 (by decide) ag25 rfl rfl (v := .agg [.nil, .nil, .int .i64 0]) rfl (res_tmp (v := eErr 83 r1) rfl (res_nil ?_))
    show Gives _ (.tuple [.agg [.nil, .nil, .int .i64 0], eErr 83 r1]) _
    exact gives_out hrg (VW.tupL (vl' (VW.aggL (vl' (VW.nilL) (vl' (VW.nilL) (vl' vr (vn))))) (vl' vr (vn)))) (hQ _ _ h)
  replace h := h.2 hb
  refine Vc.skip' ?_
  refine qZ ?_
  obtain ⟨J, h, hJ⟩ := h
  refine Vc.join' (σ := ((Bool) × (Nat × Nat × Nat × Nat × Nat × Nat × Nat))) (fun y => J y.1) (fun y => envOf [(1, .int .i64 i), (6, .ptr rg 6 y.2.1 0 0), (8, .ptr rg 1600000 y.2.2.1 0 0), (9, eL (AV.int .i64) r), (31, .bool y.1)]) (fun y => stL S rg [(6, .arr 3 [.agg [.nil, .nil, .int .i64 0]], y.2.1), (1600000, .arr 5 [.agg [.sl 1 rg 1600001 y.2.2.2.1 0 order.length, .sl 1 rg 1600002 y.2.2.2.2.1 0 place.length, .sl 3 rg 1600003 y.2.2.2.2.2.1 0 nodes.length, .map rg 1600004 y.2.2.2.2.2.2.1, .map rg 1600005 y.2.2.2.2.2.2.2]], y.2.2.1), (1600001, .arr 1 (List.map (AV.int .i64) order), y.2.2.2.1), (1600002, .arr 1 (List.map (AV.int .i64) place), y.2.2.2.2.1), (1600003, .arr 3 (List.map eDNode nodes), y.2.2.2.2.2.1), (1600004, mapE (AV.int .i64) (.many [.i64, .i64, .i64]) unique, y.2.2.2.2.2.2.1), (1600005, mapE (AV.int .i64) (.many [.i64, .i64, .i64]) memo, y.2.2.2.2.2.2.2)]) (fun y h => ?_) ?_
  · obtain ⟨x, ⟨g12, g13, g14, g15, g16, g17, g18⟩⟩ := y
    replace h := hJ x h
    show Vc _ _ _ _ (envOf [(1, .int .i64 i), (6, .ptr rg 6 g12 0 0), (8, .ptr rg 1600000 g13 0 0), (9, eL (AV.int .i64) r), (31, .bool x)]) (stL S rg [(6, .arr 3 [.agg [.nil, .nil, .int .i64 0]], g12), (1600000, .arr 5 [.agg [.sl 1 rg 1600001 g14 0 order.length, .sl 1 rg 1600002 g15 0 place.length, .sl 3 rg 1600003 g16 0 nodes.length, .map rg 1600004 g17, .map rg 1600005 g18]], g13), (1600001, .arr 1 (List.map (AV.int .i64) order), g14), (1600002, .arr 1 (List.map (AV.int .i64) place), g15), (1600003, .arr 3 (List.map eDNode nodes), g16), (1600004, mapE (AV.int .i64) (.many [.i64, .i64, .i64]) unique, g17), (1600005, mapE (AV.int .i64) (.many [.i64, .i64, .i64]) memo, g18)])
    refine Vc.cond' rfl (fun hb1 => ?_) (fun hb1 => ?_)
    · replace h := h.1 hb1
      refine qZ (rZ (wZ rg (o_build td25 zav25 bok25 szs25 sz25 (ps := []) rfl rfl (v := .agg [.nil, .nil, .int .i64 0]) rfl (wZ rg (o_iface (by rw [td83]; trivial) (v := .int .i64 10) rfl (wZ rg (o_storeB (atL (k := 6) rfl) sz25 (by decide) rfl (w := .agg [.nil, .nil, .int .i64 0]) rfl rfl rfl (v := .agg [.nil, .nil, .int .i64 0]) rfl setL (asZ (.iface 83 (.int .i64 10)) rfl (nZ ?_)))))))))
      refine Vc.ret' ?_
      refine res_cellA (atL (k := 6) rfl) sz25 (by decide) ag25 rfl rfl (v := .agg [.nil, .nil, .int .i64 0]) rfl (res_tmp (v := .iface 83 (.int .i64 10)) rfl (res_nil ?_))
      show Gives _ (.tuple [.agg [.nil, .nil, .int .i64 0], .iface 83 (.int .i64 10)]) _
      exact gives_out hrg (VW.tupL (vl' (VW.aggL (vl' (VW.nilL) (vl' (VW.nilL) (vl' vr (vn))))) (vl' vr (vn)))) (hQ _ _ h)
    replace h := h.2 hb1
    refine Vc.skip' ?_
    refine qZ ?_
    have hg := h.1
    replace h := h.2
    have hg1 := h.1
    replace h := h.2
    obtain ⟨u, u1, u2, r2, hc, h⟩ := h
    obtain ⟨r3, r4, hc1, h⟩ := h
    refine Vc.drawn' mixed rg (usOf [(9, wc (fun _ => .int .i64 r2) [(rg, 1600001), (rg, 1600002)] [(rg, 1600000), (rg, 1600003), (rg, 1600004), (rg, 1600005)] (fun gm => [(rg, 1600000, .arr 5 [.agg [.sl 1 rg 1600001 g14 0 order.length, .sl 1 rg 1600002 g15 0 place.length, .sl 3 rg 1600003 (gm 0) 0 u.length, .map rg 1600004 g17, .map rg 1600005 g18]], g13), (rg, 1600003, .arr 3 (List.map eDNode u), (gm 0)), (rg, 1600004, mapE (AV.int .i64) (.many [.i64, .i64, .i64]) u1, g17), (rg, 1600005, mapE (AV.int .i64) (.many [.i64, .i64, .i64]) u2, g18)])), (10, wc (fun _ => .tuple [eDiagram r3, eErr 83 r4]) [(rg, 1600000), (rg, 1600001), (rg, 1600002), (rg, 1600003), (rg, 1600004), (rg, 1600005)] [] (fun _ => []))]) (by kernel_rfl) ?_
    refine dP rfl rfl (o_move (v := .ptr rg 1600000 g13 0 0) rfl (dP rfl rfl (o_move (v := .ptr rg 1600000 g13 0 0) rfl (dP rfl rfl (o_move (v := eL (AV.int .i64) r) rfl (dP rfl rfl (o_idxL td22 sz3 (by decide) (fun _ => rfl) rfl rfl hg (dP rfl rfl (o_loadI1 sz3 ag3 rfl rfl (v := .int .i64 (at' r 0)) rfl (dP rfl rfl (o_move (v := .int .i64 i) rfl (dP rfl rfl (o_move (v := eL (AV.int .i64) r) rfl ?_)))))))))))))
    refine dP rfl rfl (o_idxL td22 sz3 (by decide) (fun _ => rfl) rfl rfl hg1 (dP rfl rfl (o_loadI1 sz3 ag3 rfl rfl (v := .int .i64 (at' r 1)) rfl ?_)))
    refine dCE (vs := [.ptr rg 1600000 g13 0 0, AV.int .i64 (at' r 0), AV.int .i64 i, AV.int .i64 (at' r 1)]) (V := fun _ => .int .i64 r2) (rd := [(rg, 1600001), (rg, 1600002)]) (wk := [(rg, 1600000), (rg, 1600003), (rg, 1600004), (rg, 1600005)]) (wr := fun gm => [(rg, 1600000, .arr 5 [.agg [.sl 1 rg 1600001 g14 0 order.length, .sl 1 rg 1600002 g15 0 place.length, .sl 3 rg 1600003 (gm 0) 0 u.length, .map rg 1600004 g17, .map rg 1600005 g18]], g13), (rg, 1600003, .arr 3 (List.map eDNode u), (gm 0)), (rg, 1600004, mapE (AV.int .i64) (.many [.i64, .i64, .i64]) u1, g17), (rg, 1600005, mapE (AV.int .i64) (.many [.i64, .i64, .i64]) u2, g18)]) rfl (vl' vr (vl' vr (vl' vr (vl' vr (vn))))) rfl (cfn) (by simp) (fun _ => rfl) (fun S' hA hB => ctrX (sx_c (ag hB 0 rfl (atL (k := 1600000) rfl)) (sx_c (ag hB 1 rfl (atL (k := 1600003) rfl)) (sx_c (ag hB 2 rfl (atL (k := 1600004) rfl)) (sx_c (ag hB 3 rfl (atL (k := 1600005) rfl)) (sx_c (ag hA 0 rfl (atL (k := 1600001) rfl)) (sx_c (ag hA 1 rfl (atL (k := 1600002) rfl)) (sx_n))))))) (decision_Table__Compose__e_ctr (dk_c (ni_c (ni_o rfl) (ni_c (ni_o rfl) (ni_c (ni_o rfl) (ni_c (ni_o rfl) (ni_c (ni_o rfl) (ni_n)))))) (dk_c (ni_c (ni_o rfl) (ni_c (ni_o rfl) (ni_c (ni_o rfl) (ni_c (ni_o rfl) (ni_n))))) (dk_c (ni_c (ni_o rfl) (ni_c (ni_o rfl) (ni_c (ni_o rfl) (ni_n)))) (dk_c (ni_c (ni_o rfl) (ni_c (ni_o rfl) (ni_n))) (dk_c (ni_c (ni_o rfl) (ni_n)) (dk_c (ni_n) (dk_n))))))) hc (fun _ _ _ _ h3 he => by obtain ⟨rfl, rfl, rfl, rfl⟩ := he; exact ⟨fun i => [h3].getD i 0, rfl, sm_c (sm_c (sm_c (sm_c (sx_c (ag hA 0 rfl (atL (k := 1600001) rfl)) (sx_c (ag hA 1 rfl (atL (k := 1600002) rfl)) (sx_n))))))⟩))) (fun gm => ?_)
    refine vdT.eqS (sa_c (sa_c (sa_c (sa_c (sa_n) setL) setL) setL) setL) ?_
    refine dCE (vs := [.ptr rg 1600000 g13 0 0, AV.int .i64 r2]) (V := fun _ => .tuple [eDiagram r3, eErr 83 r4]) (rd := [(rg, 1600000), (rg, 1600001), (rg, 1600002), (rg, 1600003), (rg, 1600004), (rg, 1600005)]) (wk := []) (wr := fun _ => []) rfl (vl' vr (vl' vr (vn))) rfl (cfo (by kernel_rfl) (cfn)) (by simp) (fun _ => rfl) (fun S' hA hB => ctrX (sx_c (ag hA 0 rfl (atL (k := 1600000) rfl)) (sx_c (ag hA 1 rfl (atL (k := 1600001) rfl)) (sx_c (ag hA 2 rfl (atL (k := 1600002) rfl)) (sx_c (ag hA 3 rfl (atL (k := 1600003) rfl)) (sx_c (ag hA 4 rfl (atL (k := 1600004) rfl)) (sx_c (ag hA 5 rfl (atL (k := 1600005) rfl)) (sx_n))))))) (algebra_result__e_ctr (dk_c (ni_c (ni_o rfl) (ni_c (ni_o rfl) (ni_c (ni_o rfl) (ni_c (ni_o rfl) (ni_c (ni_o rfl) (ni_n)))))) (dk_c (ni_c (ni_o rfl) (ni_c (ni_o rfl) (ni_c (ni_o rfl) (ni_c (ni_o rfl) (ni_n))))) (dk_c (ni_c (ni_o rfl) (ni_c (ni_o rfl) (ni_c (ni_o rfl) (ni_n)))) (dk_c (ni_c (ni_o rfl) (ni_c (ni_o rfl) (ni_n))) (dk_c (ni_c (ni_o rfl) (ni_n)) (dk_c (ni_n) (dk_n))))))) hc1 (fun _ _ he => by obtain ⟨rfl, rfl⟩ := he; exact ⟨fun i => ([] : List Nat).getD i 0, rfl, sx_c (ag hA 0 rfl (atL (k := 1600000) rfl)) (sx_c (ag hA 1 rfl (atL (k := 1600001) rfl)) (sx_c (ag hA 2 rfl (atL (k := 1600002) rfl)) (sx_c (ag hA 3 rfl (atL (k := 1600003) rfl)) (sx_c (ag hA 4 rfl (atL (k := 1600004) rfl)) (sx_c (ag hA 5 rfl (atL (k := 1600005) rfl)) (sx_n))))))⟩))) (fun _ => ?_)
    refine vdT.eqS (sa_n) ?_
    refine dP rfl rfl (o_extract (v := eDiagram r3) rfl rfl rfl (dP rfl rfl (o_extract (v := eErr 83 r4) rfl rfl rfl (dL (E := ([], [(rg, 6)])) rfl rfl (by simp) (cfo (by kernel_rfl) (cfo (by kernel_rfl) (cfn))) (o_storeB (atL (k := 6) rfl) sz25 (by decide) rfl (w := eDiagram r3) rfl rfl rfl (v := eDiagram r3) rfl setL (dP rfl rfl (o_assign (v := eErr 83 r4) rfl (dN ?_))))))))
    refine Vc.ret' ?_
    refine res_cellA (atL (k := 6) rfl) sz25 (by decide) ag25 rfl rfl (v := eDiagram r3) rfl (res_tmp (v := eErr 83 r4) rfl (res_nil ?_))
    show Gives _ (.tuple [eDiagram r3, eErr 83 r4]) _
    exact gives_out hrg (VW.tupL (vl' vr (vl' vr (vn)))) (hQ _ _ h)
  refine rZ ?_
  refine mvZ (.int .i64 i) rfl (wZ rg (o_lss rfl rfl (mvZ (.bool (decide (i < 0))) rfl ?_)))
  refine Wl.guard rfl rfl (fun hb2 => ?_) (fun hb2 => ?_)
  · replace h := h.2 hb2
    refine mvZ (.int .i64 i) rfl ?_
    refine Wl.guardT rfl rfl hb2 ?_
    refine wZ rg (o_faP td25 rfl rfl (by rw [sz22]; decide) rfl ?_)
    refine Wl.guardT rfl rfl hb2 ?_
    refine wZ rg (o_loadB1 (atL (k := 3) rfl) sz22 ag22 rfl rfl (v := eL (AV.int .i64) d.Order) rfl ?_)
    refine Wl.guardT rfl rfl hb2 ?_
    refine wZ rg (o_len td22 rfl ?_)
    refine Wl.guardT rfl rfl hb2 ?_
    refine wZ rg (o_geq rfl rfl (wZ rg (o_pickF rfl hb2 (v := .bool (decide ((d.Order.length : Int) ≤ i))) rfl (nZ ?_))))
    exact ⟨((decide ((d.Order.length : Int) ≤ i)), (g4, g6, g7, g8, g9, g10, g11)), (canon (fc vr (fc vr (fc vr (fc vr (fc vr (fn)))))) (sc rfl (sc rfl (sc rfl (sc rfl (sc rfl (sc rfl (sc rfl (sn))))))))), h⟩
  replace h := h.1 hb2
  refine Wl.guardF rfl rfl hb2 rfl ?_
  refine Wl.guardF rfl rfl hb2 rfl ?_
  refine Wl.guardF rfl rfl hb2 rfl ?_
  refine Wl.guardF rfl rfl hb2 rfl ?_
  refine wZ rg (o_pickT rfl hb2 (v := .bool true) rfl (nZ ?_))
  exact ⟨(true, (g4, g6, g7, g8, g9, g10, g11)), (canon (fc vr (fc vr (fc vr (fc vr (fc vr (fn)))))) (sc rfl (sc rfl (sc rfl (sc rfl (sc rfl (sc rfl (sc rfl (sn))))))))), h⟩
end Go.Proofs.Ytllegjdggcmgaaa
