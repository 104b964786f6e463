/- Walks of functions. Conditions: none. -/
import Derived.Test.YtllegjdggcmgaaaWa
import Derived.Test.YtllegjdggcmgaaaGgTy
import Derived.Test.YtllegjdggcmgaaaGd
import Derived.Test.YtllegjdggcmgaaaK3
import Derived.Test.YtllegjdggcmgaaaK2
/- Walks of functions. Conditions: none. -/
namespace Go.Proofs.Ytllegjdggcmgaaa
open Go.Gg
set_option maxRecDepth 100000
theorem algebra_Restrict_ctr {d : GDiagram} {i : Int} {v : Bool} {Q : GDiagram → Option Int → Prop} {S : St} {R : AV → St → Prop} (h : algebra_Restrict_W d i v Q) (hQ : ∀ r1 r2, Q r1 r2 → R (.tuple [eDiagram r1, eErr 83 r2]) S) :
    Ctr Try.prog 58 [eDiagram d, AV.int .i64 i, AV.bool v] S R := by
  unfold algebra_Restrict_W at h
  refine enterT Try.func58 rfl Try.ntmps58 Try.results58 (by kernel_rfl) (fun rg hrg => ?_)
  refine qZ (rZ (wZ rg (o_box (v := eDiagram d) rfl rfl (kk := 3) rfl (by decide) (fun g1 => (wZ rg (o_alloc zav25 ok25 (kk := 3) rfl (fun g2 => (asZ .niface rfl (nZ (qZ (rZ (wZ rg (o_loadBA (atL (k := 3) rfl) sz25 (by decide) ag25 rfl rfl (v := eDiagram d) rfl (wZ rg (o_bslice td142 ok25 zav25 (es := [eDiagram d]) rfl (kk := 3) rfl rfl rfl rfl rfl rfl (fun g3 => ?_))))))))))))))))
  refine Wl.wk (canon_freeze (k := 13) (xs := List.map eDiagram [d]) rfl (es := [(1, .int .i64 i), (2, .bool v), (3, .ptr rg 3 g1 0 0), (6, .ptr rg 6 g2 0 0), (13, eL eDiagram [d])]) (fc vr (fc vr (fc vr (fc vr (fc (frz_full rfl) (fn)))))) (m := [(3, .arr 3 [eDiagram d], g1), (6, .arr 3 [.agg [.nil, .nil, .int .i64 0]], g2)]) (sc rfl (sc rfl (sn)))) ?_
  refine wZ rg (o_call (us := [eL eDiagram [d]]) rfl (vl' vr (vn)) (algebra_open_ctr rg 1500000 1500001 1500002 1500003 1500004 1500005 h (fun r r1 h => ?_) (fun order place nodes unique memo r r1 g4 g5 g6 g7 g8 g9 h => ?_)))
  · replace h := h.1 rfl
    refine mvZ (.tuple [.nilp, eL (AV.int .i64) r, eErr 83 r1]) rfl (wZ rg (o_extract (v := .nilp) rfl rfl rfl (wZ rg (o_extract (v := eL (AV.int .i64) r) rfl rfl rfl (wZ rg (o_extract (v := eErr 83 r1) rfl rfl rfl (asZ .nilp rfl (asZ (eL (AV.int .i64) r) rfl (asZ (eErr 83 r1) rfl (nZ (qZ (qZ (rZ (mvZ (eErr 83 r1) rfl (wZ rg (o_isnon td29 (E := 83) rfl rfl rfl (nZ ?_)))))))))))))))))
    refine Vc.cond' rfl (fun hb3 => ?_) (fun hb3 => ?_)
    · replace h := h.1 hb3
      refine qZ (rZ (wZ rg (o_build td25 zav25 bok25 szs25 sz25 (ps := []) rfl rfl (v := .agg [.nil, .nil, .int .i64 0]) rfl (mvZ (eErr 83 r1) rfl (wZ rg (o_storeB (atL (k := 6) rfl) sz25 (by decide) rfl (w := .agg [.nil, .nil, .int .i64 0]) rfl rfl rfl (v := .agg [.nil, .nil, .int .i64 0]) rfl setL (asZ (eErr 83 r1) rfl (nZ ?_))))))))
      refine Vc.ret' ?_
      refine res_cellA (atL (k := 6) rfl) sz25 (by decide) ag25 rfl rfl (v := .agg [.nil, .nil, .int .i64 0]) rfl (res_tmp (v := eErr 83 r1) rfl (res_nil ?_))
      show Gives _ (.tuple [.agg [.nil, .nil, .int .i64 0], eErr 83 r1]) _
      exact gives_out hrg (VW.tupL (vl' (VW.aggL (vl' (VW.nilL) (vl' (VW.nilL) (vl' vr (vn))))) (vl' vr (vn)))) (hQ _ _ h)
    replace h := h.2 hb3
    refine Vc.skip' ?_
    refine qZ ?_
    obtain ⟨J, h, hJ⟩ := h
    refine Vc.join' (σ := ((Bool) × (Nat))) (fun y => J y.1) (fun y => envOf [(1, .int .i64 i), (2, .bool v), (6, .ptr rg 6 y.2 0 0), (8, .nilp), (9, eL (AV.int .i64) r), (30, .bool y.1)]) (fun y => stL S rg [(6, .arr 3 [.agg [.nil, .nil, .int .i64 0]], y.2)]) (fun y h => ?_) ?_
    · obtain ⟨x1, g18⟩ := y
      replace h := hJ x1 h
      show Vc _ _ _ _ (envOf [(1, .int .i64 i), (2, .bool v), (6, .ptr rg 6 g18 0 0), (8, .nilp), (9, eL (AV.int .i64) r), (30, .bool x1)]) (stL S rg [(6, .arr 3 [.agg [.nil, .nil, .int .i64 0]], g18)])
      refine Vc.cond' rfl (fun hb4 => ?_) (fun hb4 => ?_)
      · replace h := h.1 hb4
        refine qZ (rZ (wZ rg (o_build td25 zav25 bok25 szs25 sz25 (ps := []) rfl rfl (v := .agg [.nil, .nil, .int .i64 0]) rfl (wZ rg (o_iface (by rw [td83]; trivial) (v := .int .i64 10) rfl (wZ rg (o_storeB (atL (k := 6) rfl) sz25 (by decide) rfl (w := .agg [.nil, .nil, .int .i64 0]) rfl rfl rfl (v := .agg [.nil, .nil, .int .i64 0]) rfl setL (asZ (.iface 83 (.int .i64 10)) rfl (nZ ?_)))))))))
        refine Vc.ret' ?_
        refine res_cellA (atL (k := 6) rfl) sz25 (by decide) ag25 rfl rfl (v := .agg [.nil, .nil, .int .i64 0]) rfl (res_tmp (v := .iface 83 (.int .i64 10)) rfl (res_nil ?_))
        show Gives _ (.tuple [.agg [.nil, .nil, .int .i64 0], .iface 83 (.int .i64 10)]) _
        exact gives_out hrg (VW.tupL (vl' (VW.aggL (vl' (VW.nilL) (vl' (VW.nilL) (vl' vr (vn))))) (vl' vr (vn)))) (hQ _ _ h)
      replace h := h.2 hb4
      refine Vc.skip' ?_
      refine qZ (rZ (mvZ .nilp rfl (mvZ .nilp rfl (mvZ (eL (AV.int .i64) r) rfl (wZ rg (o_idxL td22 sz3 (by decide) (fun _ => rfl) rfl rfl h.1 ?_))))))
      replace h := h.2
      refine wZ rg (o_loadI1 sz3 ag3 rfl rfl (v := .int .i64 (at' r 0)) rfl (mvZ (.int .i64 i) rfl (mvZ (.bool v) rfl ?_)))
      exact h.elim
    refine rZ ?_
    refine mvZ (.int .i64 i) rfl (wZ rg (o_lss rfl rfl (mvZ (.bool (decide (i < 0))) rfl ?_)))
    refine Wl.guard rfl rfl (fun hb5 => ?_) (fun hb5 => ?_)
    · replace h := h.2 hb5
      refine mvZ (.int .i64 i) rfl ?_
      refine Wl.guardT rfl rfl hb5 ?_
      refine wZ rg (o_faP td25 rfl rfl (by rw [sz22]; decide) rfl ?_)
      refine Wl.guardT rfl rfl hb5 ?_
      refine wZ rg (o_loadB1 (atL (k := 3) rfl) sz22 ag22 rfl rfl (v := eL (AV.int .i64) d.Order) rfl ?_)
      refine Wl.guardT rfl rfl hb5 ?_
      refine wZ rg (o_len td22 rfl ?_)
      refine Wl.guardT rfl rfl hb5 ?_
      refine wZ rg (o_geq rfl rfl (wZ rg (o_pickF rfl hb5 (v := .bool (decide ((d.Order.length : Int) ≤ i))) rfl (nZ ?_))))
      exact ⟨((decide ((d.Order.length : Int) ≤ i)), g2), (canon (fc vr (fc vr (fc vr (fc vr (fc vr (fc vr (fn))))))) (sc rfl (sn))), h⟩
    replace h := h.1 hb5
    refine Wl.guardF rfl rfl hb5 rfl ?_
    refine Wl.guardF rfl rfl hb5 rfl ?_
    refine Wl.guardF rfl rfl hb5 rfl ?_
    refine Wl.guardF rfl rfl hb5 rfl ?_
    refine wZ rg (o_pickT rfl hb5 (v := .bool true) rfl (nZ ?_))
    exact ⟨(true, g2), (canon (fc vr (fc vr (fc vr (fc vr (fc vr (fc vr (fn))))))) (sc rfl (sn))), h⟩
  replace h := h.2 (order, place, nodes, unique, memo) rfl
  refine Wl.eqS (sy_c (sy_c (sy_c (sy_c (sy_c (sy_c (sx_n) setL) setL) setL) setL) setL) setL) ?_
  refine mvZ (.tuple [.ptr rg 1500000 g4 0 0, eL (AV.int .i64) r, eErr 83 r1]) rfl (wZ rg (o_extract (v := .ptr rg 1500000 g4 0 0) rfl rfl rfl (wZ rg (o_extract (v := eL (AV.int .i64) r) rfl rfl rfl (wZ rg (o_extract (v := eErr 83 r1) rfl rfl rfl (asZ (.ptr rg 1500000 g4 0 0) rfl (asZ (eL (AV.int .i64) r) rfl (asZ (eErr 83 r1) rfl (nZ (qZ (qZ (rZ (mvZ (eErr 83 r1) rfl ?_))))))))))))))
  refine wZ rg (o_isnon td29 (E := 83) rfl rfl rfl (nZ ?_))
  refine Vc.cond' rfl (fun hb => ?_) (fun hb => ?_)
  · replace h := h.1 hb
    refine qZ (rZ (wZ rg (o_build td25 zav25 bok25 szs25 sz25 (ps := []) rfl rfl (v := .agg [.nil, .nil, .int .i64 0]) rfl (mvZ (eErr 83 r1) rfl (wZ rg (o_storeB (atL (k := 6) rfl) sz25 (by decide) rfl (w := .agg [.nil, .nil, .int .i64 0]) rfl rfl rfl (v := .agg [.nil, .nil, .int .i64 0]) rfl setL (asZ (eErr 83 r1) rfl (nZ ?_))))))))
    refine Vc.ret' ?_
    refine res_cellA (atL (k := 6) rfl) sz25 (by decide) ag25 rfl rfl (v := .agg [.nil, .nil, .int .i64 0]) rfl (res_tmp (v := eErr 83 r1) rfl (res_nil ?_))
    show Gives _ (.tuple [.agg [.nil, .nil, .int .i64 0], eErr 83 r1]) _
    exact gives_out hrg (VW.tupL (vl' (VW.aggL (vl' (VW.nilL) (vl' (VW.nilL) (vl' vr (vn))))) (vl' vr (vn)))) (hQ _ _ h)
  replace h := h.2 hb
  refine Vc.skip' ?_
  refine qZ ?_
  obtain ⟨J, h, hJ⟩ := h
  refine Vc.join' (σ := ((Bool) × (Nat × Nat × Nat × Nat × Nat × Nat × Nat))) (fun y => J y.1) (fun y => envOf [(1, .int .i64 i), (2, .bool v), (6, .ptr rg 6 y.2.1 0 0), (8, .ptr rg 1500000 y.2.2.1 0 0), (9, eL (AV.int .i64) r), (30, .bool y.1)]) (fun y => stL S rg [(6, .arr 3 [.agg [.nil, .nil, .int .i64 0]], y.2.1), (1500000, .arr 5 [.agg [.sl 1 rg 1500001 y.2.2.2.1 0 order.length, .sl 1 rg 1500002 y.2.2.2.2.1 0 place.length, .sl 3 rg 1500003 y.2.2.2.2.2.1 0 nodes.length, .map rg 1500004 y.2.2.2.2.2.2.1, .map rg 1500005 y.2.2.2.2.2.2.2]], y.2.2.1), (1500001, .arr 1 (List.map (AV.int .i64) order), y.2.2.2.1), (1500002, .arr 1 (List.map (AV.int .i64) place), y.2.2.2.2.1), (1500003, .arr 3 (List.map eDNode nodes), y.2.2.2.2.2.1), (1500004, mapE (AV.int .i64) (.many [.i64, .i64, .i64]) unique, y.2.2.2.2.2.2.1), (1500005, mapE (AV.int .i64) (.many [.i64, .i64, .i64]) memo, y.2.2.2.2.2.2.2)]) (fun y h => ?_) ?_
  · obtain ⟨x, ⟨g10, g11, g12, g13, g14, g15, g16⟩⟩ := y
    replace h := hJ x h
    show Vc _ _ _ _ (envOf [(1, .int .i64 i), (2, .bool v), (6, .ptr rg 6 g10 0 0), (8, .ptr rg 1500000 g11 0 0), (9, eL (AV.int .i64) r), (30, .bool x)]) (stL S rg [(6, .arr 3 [.agg [.nil, .nil, .int .i64 0]], g10), (1500000, .arr 5 [.agg [.sl 1 rg 1500001 g12 0 order.length, .sl 1 rg 1500002 g13 0 place.length, .sl 3 rg 1500003 g14 0 nodes.length, .map rg 1500004 g15, .map rg 1500005 g16]], g11), (1500001, .arr 1 (List.map (AV.int .i64) order), g12), (1500002, .arr 1 (List.map (AV.int .i64) place), g13), (1500003, .arr 3 (List.map eDNode nodes), g14), (1500004, mapE (AV.int .i64) (.many [.i64, .i64, .i64]) unique, g15), (1500005, mapE (AV.int .i64) (.many [.i64, .i64, .i64]) memo, g16)])
    refine Vc.cond' rfl (fun hb1 => ?_) (fun hb1 => ?_)
    · replace h := h.1 hb1
      refine qZ (rZ (wZ rg (o_build td25 zav25 bok25 szs25 sz25 (ps := []) rfl rfl (v := .agg [.nil, .nil, .int .i64 0]) rfl (wZ rg (o_iface (by rw [td83]; trivial) (v := .int .i64 10) rfl (wZ rg (o_storeB (atL (k := 6) rfl) sz25 (by decide) rfl (w := .agg [.nil, .nil, .int .i64 0]) rfl rfl rfl (v := .agg [.nil, .nil, .int .i64 0]) rfl setL (asZ (.iface 83 (.int .i64 10)) rfl (nZ ?_)))))))))
      refine Vc.ret' ?_
      refine res_cellA (atL (k := 6) rfl) sz25 (by decide) ag25 rfl rfl (v := .agg [.nil, .nil, .int .i64 0]) rfl (res_tmp (v := .iface 83 (.int .i64 10)) rfl (res_nil ?_))
      show Gives _ (.tuple [.agg [.nil, .nil, .int .i64 0], .iface 83 (.int .i64 10)]) _
      exact gives_out hrg (VW.tupL (vl' (VW.aggL (vl' (VW.nilL) (vl' (VW.nilL) (vl' vr (vn))))) (vl' vr (vn)))) (hQ _ _ h)
    replace h := h.2 hb1
    refine Vc.skip' ?_
    refine qZ (rZ (mvZ (.ptr rg 1500000 g11 0 0) rfl (mvZ (.ptr rg 1500000 g11 0 0) rfl (mvZ (eL (AV.int .i64) r) rfl (wZ rg (o_idxL td22 sz3 (by decide) (fun _ => rfl) rfl rfl h.1 ?_))))))
    replace h := h.2
    refine wZ rg (o_loadI1 sz3 ag3 rfl rfl (v := .int .i64 (at' r 0)) rfl (mvZ (.int .i64 i) rfl (mvZ (.bool v) rfl ?_)))
    refine wZ rg (o_call (us := [.ptr rg 1500000 g11 0 0, AV.int .i64 (at' r 0), AV.int .i64 i, AV.bool v]) rfl (vl' vr (vl' vr (vl' vr (vl' vr (vn))))) (ctrX (sx_c (atL (k := 1500000) rfl) (sx_c (atL (k := 1500003) rfl) (sx_c (atL (k := 1500004) rfl) (sx_c (atL (k := 1500005) rfl) (sx_c (atL (k := 1500001) rfl) (sx_c (atL (k := 1500002) rfl) (sx_n))))))) (decision_Table__Restrict__e_ctr (dk_c (ni_c (ni_o rfl) (ni_c (ni_o rfl) (ni_c (ni_o rfl) (ni_c (ni_o rfl) (ni_c (ni_o rfl) (ni_n)))))) (dk_c (ni_c (ni_o rfl) (ni_c (ni_o rfl) (ni_c (ni_o rfl) (ni_c (ni_o rfl) (ni_n))))) (dk_c (ni_c (ni_o rfl) (ni_c (ni_o rfl) (ni_c (ni_o rfl) (ni_n)))) (dk_c (ni_c (ni_o rfl) (ni_c (ni_o rfl) (ni_n))) (dk_c (ni_c (ni_o rfl) (ni_n)) (dk_c (ni_n) (dk_n))))))) h fun u u1 u2 r2 g17 h => ?_)))
    refine Wl.eqS (sy_c (sy_c (sy_c (sy_c (sx_c (atL (k := 1500001) rfl) (sx_c (atL (k := 1500002) rfl) (sx_n))) setL) setL) setL) setL) ?_
    refine wZ rg (o_call (us := [.ptr rg 1500000 g11 0 0, AV.int .i64 r2]) rfl (vl' vr (vl' vr (vn))) (ctrX (sx_c (atL (k := 1500000) rfl) (sx_c (atL (k := 1500001) rfl) (sx_c (atL (k := 1500002) rfl) (sx_c (atL (k := 1500003) rfl) (sx_c (atL (k := 1500004) rfl) (sx_c (atL (k := 1500005) rfl) (sx_n))))))) (algebra_result__e_ctr (dk_c (ni_c (ni_o rfl) (ni_c (ni_o rfl) (ni_c (ni_o rfl) (ni_c (ni_o rfl) (ni_c (ni_o rfl) (ni_n)))))) (dk_c (ni_c (ni_o rfl) (ni_c (ni_o rfl) (ni_c (ni_o rfl) (ni_c (ni_o rfl) (ni_n))))) (dk_c (ni_c (ni_o rfl) (ni_c (ni_o rfl) (ni_c (ni_o rfl) (ni_n)))) (dk_c (ni_c (ni_o rfl) (ni_c (ni_o rfl) (ni_n))) (dk_c (ni_c (ni_o rfl) (ni_n)) (dk_c (ni_n) (dk_n))))))) h fun r3 r4 h => ?_)))
    refine Wl.eqS (sx_c (atL (k := 1500000) rfl) (sx_c (atL (k := 1500001) rfl) (sx_c (atL (k := 1500002) rfl) (sx_c (atL (k := 1500003) rfl) (sx_c (atL (k := 1500004) rfl) (sx_c (atL (k := 1500005) rfl) (sx_n))))))) ?_
    refine wZ rg (o_extract (v := eDiagram r3) rfl rfl rfl (wZ rg (o_extract (v := eErr 83 r4) rfl rfl rfl (wZ rg (o_storeB (atL (k := 6) rfl) sz25 (by decide) rfl (w := eDiagram r3) rfl rfl rfl (v := eDiagram r3) rfl setL (asZ (eErr 83 r4) rfl (nZ ?_)))))))
    refine Vc.ret' ?_
    refine res_cellA (atL (k := 6) rfl) sz25 (by decide) ag25 rfl rfl (v := eDiagram r3) rfl (res_tmp (v := eErr 83 r4) rfl (res_nil ?_))
    show Gives _ (.tuple [eDiagram r3, eErr 83 r4]) _
    exact gives_out hrg (VW.tupL (vl' vr (vl' vr (vn)))) (hQ _ _ h)
  refine rZ ?_
  refine mvZ (.int .i64 i) rfl (wZ rg (o_lss rfl rfl (mvZ (.bool (decide (i < 0))) rfl ?_)))
  refine Wl.guard rfl rfl (fun hb2 => ?_) (fun hb2 => ?_)
  · replace h := h.2 hb2
    refine mvZ (.int .i64 i) rfl ?_
    refine Wl.guardT rfl rfl hb2 ?_
    refine wZ rg (o_faP td25 rfl rfl (by rw [sz22]; decide) rfl ?_)
    refine Wl.guardT rfl rfl hb2 ?_
    refine wZ rg (o_loadB1 (atL (k := 3) rfl) sz22 ag22 rfl rfl (v := eL (AV.int .i64) d.Order) rfl ?_)
    refine Wl.guardT rfl rfl hb2 ?_
    refine wZ rg (o_len td22 rfl ?_)
    refine Wl.guardT rfl rfl hb2 ?_
    refine wZ rg (o_geq rfl rfl (wZ rg (o_pickF rfl hb2 (v := .bool (decide ((d.Order.length : Int) ≤ i))) rfl (nZ ?_))))
    exact ⟨((decide ((d.Order.length : Int) ≤ i)), (g2, g4, g5, g6, g7, g8, g9)), (canon (fc vr (fc vr (fc vr (fc vr (fc vr (fc vr (fn))))))) (sc rfl (sc rfl (sc rfl (sc rfl (sc rfl (sc rfl (sc rfl (sn))))))))), h⟩
  replace h := h.1 hb2
  refine Wl.guardF rfl rfl hb2 rfl ?_
  refine Wl.guardF rfl rfl hb2 rfl ?_
  refine Wl.guardF rfl rfl hb2 rfl ?_
  refine Wl.guardF rfl rfl hb2 rfl ?_
  refine wZ rg (o_pickT rfl hb2 (v := .bool true) rfl (nZ ?_))
  exact ⟨(true, (g2, g4, g5, g6, g7, g8, g9)), (canon (fc vr (fc vr (fc vr (fc vr (fc vr (fc vr (fn))))))) (sc rfl (sc rfl (sc rfl (sc rfl (sc rfl (sc rfl (sc rfl (sn))))))))), h⟩
set_option maxHeartbeats 4000000 in
theorem algebra_quantify__decision_Table__Or_ctr {d : GDiagram} {mask : Int} {Q : GDiagram → Option Int → Prop} {S : St} {R : AV → St → Prop} (h : algebra_quantify__decision_Table__Or_W d mask Q) (hQ : ∀ r1 r2, Q r1 r2 → R (.tuple [eDiagram r1, eErr 83 r2]) S) :
    Ctr Try.prog 137 [eDiagram d, AV.int .i64 mask, .fn (.func 133) [] []] S R := by
  unfold algebra_quantify__decision_Table__Or_W at h
  refine enterT Try.func137 rfl Try.ntmps137 Try.results137 (by kernel_rfl) (fun rg hrg => ?_)
  refine qZ (rZ (wZ rg (o_box (v := eDiagram d) rfl rfl (kk := 3) rfl (by decide) (fun g1 => (wZ rg (o_alloc zav25 ok25 (kk := 3) rfl (fun g2 => (asZ .niface rfl (nZ (qZ (rZ (wZ rg (o_loadBA (atL (k := 3) rfl) sz25 (by decide) ag25 rfl rfl (v := eDiagram d) rfl (wZ rg (o_bslice td142 ok25 zav25 (es := [eDiagram d]) rfl (kk := 3) rfl rfl rfl rfl rfl rfl (fun g3 => ?_))))))))))))))))
  refine Wl.wk (canon_freeze (k := 15) (xs := List.map eDiagram [d]) rfl (es := [(1, .int .i64 mask), (2, .fn (.func 133) [] []), (3, .ptr rg 3 g1 0 0), (6, .ptr rg 6 g2 0 0), (15, eL eDiagram [d])]) (fc vr (fc vr (fc vr (fc vr (fc (frz_full rfl) (fn)))))) (m := [(3, .arr 3 [eDiagram d], g1), (6, .arr 3 [.agg [.nil, .nil, .int .i64 0]], g2)]) (sc rfl (sc rfl (sn)))) ?_
  refine wZ rg (o_call (us := [eL eDiagram [d]]) rfl (vl' vr (vn)) (algebra_open_ctr rg 1700000 1700001 1700002 1700003 1700004 1700005 h (fun r r1 h => ?_) (fun order place nodes unique memo r r1 g4 g5 g6 g7 g8 g9 h => ?_)))
  · replace h := h.1 rfl
    refine mvZ (.tuple [.nilp, eL (AV.int .i64) r, eErr 83 r1]) rfl (wZ rg (o_extract (v := .nilp) rfl rfl rfl (wZ rg (o_extract (v := eL (AV.int .i64) r) rfl rfl rfl (wZ rg (o_extract (v := eErr 83 r1) rfl rfl rfl (asZ .nilp rfl (asZ (eL (AV.int .i64) r) rfl (asZ (eErr 83 r1) rfl (nZ (qZ (qZ (rZ (mvZ (eErr 83 r1) rfl (wZ rg (o_isnon td29 (E := 83) rfl rfl rfl (nZ ?_)))))))))))))))))
    refine Vc.cond' rfl (fun hb5 => ?_) (fun hb5 => ?_)
    · replace h := h.1 hb5
      refine qZ (rZ (wZ rg (o_build td25 zav25 bok25 szs25 sz25 (ps := []) rfl rfl (v := .agg [.nil, .nil, .int .i64 0]) rfl (mvZ (eErr 83 r1) rfl (wZ rg (o_storeB (atL (k := 6) rfl) sz25 (by decide) rfl (w := .agg [.nil, .nil, .int .i64 0]) rfl rfl rfl (v := .agg [.nil, .nil, .int .i64 0]) rfl setL (asZ (eErr 83 r1) rfl (nZ ?_))))))))
      refine Vc.ret' ?_
      refine res_cellA (atL (k := 6) rfl) sz25 (by decide) ag25 rfl rfl (v := .agg [.nil, .nil, .int .i64 0]) rfl (res_tmp (v := eErr 83 r1) rfl (res_nil ?_))
      show Gives _ (.tuple [.agg [.nil, .nil, .int .i64 0], eErr 83 r1]) _
      exact gives_out hrg (VW.tupL (vl' (VW.aggL (vl' (VW.nilL) (vl' (VW.nilL) (vl' vr (vn))))) (vl' vr (vn)))) (hQ _ _ h)
    replace h := h.2 hb5
    refine Vc.skip' ?_
    refine qZ ?_
    obtain ⟨J, h, hJ⟩ := h
    refine Vc.join' (σ := ((Bool) × (Nat × Nat))) (fun y => J y.1) (fun y => envOf [(1, .int .i64 mask), (2, .fn (.func 133) [] []), (3, .ptr rg 3 y.2.1 0 0), (6, .ptr rg 6 y.2.2 0 0), (8, .nilp), (9, eL (AV.int .i64) r), (33, .bool y.1)]) (fun y => stL S rg [(3, .arr 3 [eDiagram d], y.2.1), (6, .arr 3 [.agg [.nil, .nil, .int .i64 0]], y.2.2)]) (fun y h => ?_) ?_
    · obtain ⟨x5, ⟨g22, g23⟩⟩ := y
      replace h := hJ x5 h
      show Vc _ _ _ _ (envOf [(1, .int .i64 mask), (2, .fn (.func 133) [] []), (3, .ptr rg 3 g22 0 0), (6, .ptr rg 6 g23 0 0), (8, .nilp), (9, eL (AV.int .i64) r), (33, .bool x5)]) (stL S rg [(3, .arr 3 [eDiagram d], g22), (6, .arr 3 [.agg [.nil, .nil, .int .i64 0]], g23)])
      refine Vc.cond' rfl (fun hb6 => ?_) (fun hb6 => ?_)
      · replace h := h.1 hb6
        refine qZ (rZ (wZ rg (o_build td25 zav25 bok25 szs25 sz25 (ps := []) rfl rfl (v := .agg [.nil, .nil, .int .i64 0]) rfl (wZ rg (o_iface (by rw [td83]; trivial) (v := .int .i64 3) rfl (wZ rg (o_storeB (atL (k := 6) rfl) sz25 (by decide) rfl (w := .agg [.nil, .nil, .int .i64 0]) rfl rfl rfl (v := .agg [.nil, .nil, .int .i64 0]) rfl setL (asZ (.iface 83 (.int .i64 3)) rfl (nZ ?_)))))))))
        refine Vc.ret' ?_
        refine res_cellA (atL (k := 6) rfl) sz25 (by decide) ag25 rfl rfl (v := .agg [.nil, .nil, .int .i64 0]) rfl (res_tmp (v := .iface 83 (.int .i64 3)) rfl (res_nil ?_))
        show Gives _ (.tuple [.agg [.nil, .nil, .int .i64 0], .iface 83 (.int .i64 3)]) _
        exact gives_out hrg (VW.tupL (vl' (VW.aggL (vl' (VW.nilL) (vl' (VW.nilL) (vl' vr (vn))))) (vl' vr (vn)))) (hQ _ _ h)
      replace h := h.2 hb6
      refine Vc.skip' ?_
      refine qZ (rZ (mvZ (eL (AV.int .i64) r) rfl (wZ rg (o_idxL td22 sz3 (by decide) (fun _ => rfl) rfl rfl h.1 ?_))))
      replace h := h.2
      refine wZ rg (o_loadI1 sz3 ag3 rfl rfl (v := .int .i64 (at' r 0)) rfl (asZ (.int .i64 (at' r 0)) rfl (nZ (qZ (qZ (rZ (wZ rg (o_faP td25 rfl rfl (by rw [sz22]; decide) rfl (wZ rg (o_loadB1 (atL (k := 3) rfl) sz22 ag22 rfl rfl (v := eL (AV.int .i64) d.Order) rfl (wZ rg (o_len td22 rfl (mvZ (.int .i64 0) rfl (nZ ?_))))))))))))))
      refine Vc.blk ?_
      obtain ⟨I, μ, h0, hI⟩ := h
      refine Vc.loop' (σ := (Int × Int)) (fun y => I y) (fun y => μ y) (fun y => envOf [(1, .int .i64 mask), (2, .fn (.func 133) [] []), (6, .ptr rg 6 g23 0 0), (8, .nilp), (11, .int .i64 y.1), (41, .int .i64 (d.Order.length : Int)), (42, .int .i64 y.2)]) (fun y => stL S rg [(6, .arr 3 [.agg [.nil, .nil, .int .i64 0]], g23)]) ((at' r 0), 0) (canon (fc vr (fc vr (fc vr (fc vr (fc vr (fc vr (fc vr (fn)))))))) (sc rfl (sn))) h0 (fun y h => ?_)
      obtain ⟨r8, x6⟩ := y
      replace h := hI (r8, x6) h
      show Vc _ _ _ _ (envOf [(1, .int .i64 mask), (2, .fn (.func 133) [] []), (6, .ptr rg 6 g23 0 0), (8, .nilp), (11, .int .i64 r8), (41, .int .i64 (d.Order.length : Int)), (42, .int .i64 x6)]) (stL S rg [(6, .arr 3 [.agg [.nil, .nil, .int .i64 0]], g23)])
      refine qZ (rZ (wZ rg (o_lss rfl rfl (nZ (qZ ?_)))))
      refine Vc.cond' rfl (fun hb7 => ?_) (fun hb7 => ?_)
      · replace h := h.1 hb7
        refine Vc.skip' ?_
        refine qZ ?_
        refine Vc.blk ?_
        refine qZ (rZ (mvZ (.int .i64 x6) rfl (asZ (.int .i64 x6) rfl (nZ (qZ (rZ (mvZ (.int .i64 mask) rfl (mvZ (.int .i64 x6) rfl (wZ rg (o_shr rfl rfl h.1 ?_))))))))))
        replace h := h.2
        refine wZ rg (o_and rfl rfl (wZ rg (o_eql rfl rfl (nZ ?_))))
        refine Vc.cond' rfl (fun hb8 => ?_) (fun hb8 => ?_)
        · replace h := h.1 hb8
          refine rZ ?_
          refine mvZ (.fn (.func 133) [] []) rfl (mvZ .nilp rfl (mvZ .nilp rfl (mvZ (.int .i64 r8) rfl (mvZ (.int .i64 x6) rfl ?_))))
          exact h.elim
        replace h := h.2 hb8
        refine Vc.skip' ?_
        refine rZ ?_
        refine wZ rg (o_addG rfl rfl h.1 ?_)
        replace h := h.2
        refine mvZ (.int .i64 (x6 + 1)) rfl (nZ ?_)
        exact ⟨(r8, (x6 + 1)), (canon (fc vr (fc vr (fc vr (fc vr (fc vr (fc vr (fc vr (fn)))))))) (sc rfl (sn))), h⟩
      replace h := h.2 hb7
      refine Vc.exit' (exB_self ?_)
      refine qZ (rZ (mvZ .nilp rfl (mvZ (.int .i64 r8) rfl ?_)))
      exact h.elim
    refine rZ ?_
    refine mvZ (.int .i64 mask) rfl (wZ rg (o_lss rfl rfl (mvZ (.bool (decide (mask < 0))) rfl ?_)))
    refine Wl.guard rfl rfl (fun hb9 => ?_) (fun hb9 => ?_)
    · replace h := h.2 hb9
      refine mvZ (.int .i64 mask) rfl ?_
      refine Wl.guardT rfl rfl hb9 ?_
      refine wZ rg (o_faP td25 rfl rfl (by rw [sz22]; decide) rfl ?_)
      refine Wl.guardT rfl rfl hb9 ?_
      refine wZ rg (o_loadB1 (atL (k := 3) rfl) sz22 ag22 rfl rfl (v := eL (AV.int .i64) d.Order) rfl ?_)
      refine Wl.guardT rfl rfl hb9 ?_
      refine wZ rg (o_len td22 rfl ?_)
      refine Wl.guardT rfl rfl hb9 ?_
      refine wZ rg (o_shlG rfl rfl h.1 ?_)
      replace h := h.2
      refine Wl.guardT rfl rfl hb9 ?_
      refine wZ rg (o_geq rfl rfl (wZ rg (o_pickF rfl hb9 (v := .bool (decide ((1 * 2 ^ (Int.toNat (d.Order.length : Int))) ≤ mask))) rfl (nZ ?_))))
      exact ⟨((decide ((1 * 2 ^ (Int.toNat (d.Order.length : Int))) ≤ mask)), (g1, g2)), (canon (fc vr (fc vr (fc vr (fc vr (fc vr (fc vr (fc vr (fn)))))))) (sc rfl (sc rfl (sn)))), h⟩
    replace h := h.1 hb9
    refine Wl.guardF rfl rfl hb9 rfl ?_
    refine Wl.guardF rfl rfl hb9 rfl ?_
    refine Wl.guardF rfl rfl hb9 rfl ?_
    refine Wl.guardF rfl rfl hb9 rfl ?_
    refine Wl.guardF rfl rfl hb9 rfl ?_
    refine wZ rg (o_pickT rfl hb9 (v := .bool true) rfl (nZ ?_))
    exact ⟨(true, (g1, g2)), (canon (fc vr (fc vr (fc vr (fc vr (fc vr (fc vr (fc vr (fn)))))))) (sc rfl (sc rfl (sn)))), h⟩
  replace h := h.2 (order, place, nodes, unique, memo) rfl
  refine Wl.eqS (sy_c (sy_c (sy_c (sy_c (sy_c (sy_c (sx_n) setL) setL) setL) setL) setL) setL) ?_
  refine mvZ (.tuple [.ptr rg 1700000 g4 0 0, eL (AV.int .i64) r, eErr 83 r1]) rfl (wZ rg (o_extract (v := .ptr rg 1700000 g4 0 0) rfl rfl rfl (wZ rg (o_extract (v := eL (AV.int .i64) r) rfl rfl rfl (wZ rg (o_extract (v := eErr 83 r1) rfl rfl rfl (asZ (.ptr rg 1700000 g4 0 0) rfl (asZ (eL (AV.int .i64) r) rfl (asZ (eErr 83 r1) rfl (nZ (qZ (qZ (rZ (mvZ (eErr 83 r1) rfl ?_))))))))))))))
  refine wZ rg (o_isnon td29 (E := 83) rfl rfl rfl (nZ ?_))
  refine Vc.cond' rfl (fun hb => ?_) (fun hb => ?_)
  · replace h := h.1 hb
    refine qZ (rZ (wZ rg (o_build td25 zav25 bok25 szs25 sz25 (ps := []) rfl rfl (v := .agg [.nil, .nil, .int .i64 0]) rfl (mvZ (eErr 83 r1) rfl (wZ rg (o_storeB (atL (k := 6) rfl) sz25 (by decide) rfl (w := .agg [.nil, .nil, .int .i64 0]) rfl rfl rfl (v := .agg [.nil, .nil, .int .i64 0]) rfl setL (asZ (eErr 83 r1) rfl (nZ ?_))))))))
    refine Vc.ret' ?_
    refine res_cellA (atL (k := 6) rfl) sz25 (by decide) ag25 rfl rfl (v := .agg [.nil, .nil, .int .i64 0]) rfl (res_tmp (v := eErr 83 r1) rfl (res_nil ?_))
    show Gives _ (.tuple [.agg [.nil, .nil, .int .i64 0], eErr 83 r1]) _
    exact gives_out hrg (VW.tupL (vl' (VW.aggL (vl' (VW.nilL) (vl' (VW.nilL) (vl' vr (vn))))) (vl' vr (vn)))) (hQ _ _ h)
  replace h := h.2 hb
  refine Vc.skip' ?_
  refine qZ ?_
  obtain ⟨J, h, hJ⟩ := h
  refine Vc.join' (σ := ((Bool) × (Nat × Nat × Nat × Nat × Nat × Nat × Nat × Nat))) (fun y => J y.1) (fun y => envOf [(1, .int .i64 mask), (2, .fn (.func 133) [] []), (3, .ptr rg 3 y.2.1 0 0), (6, .ptr rg 6 y.2.2.1 0 0), (8, .ptr rg 1700000 y.2.2.2.1 0 0), (9, eL (AV.int .i64) r), (33, .bool y.1)]) (fun y => stL S rg [(3, .arr 3 [eDiagram d], y.2.1), (6, .arr 3 [.agg [.nil, .nil, .int .i64 0]], y.2.2.1), (1700000, .arr 5 [.agg [.sl 1 rg 1700001 y.2.2.2.2.1 0 order.length, .sl 1 rg 1700002 y.2.2.2.2.2.1 0 place.length, .sl 3 rg 1700003 y.2.2.2.2.2.2.1 0 nodes.length, .map rg 1700004 y.2.2.2.2.2.2.2.1, .map rg 1700005 y.2.2.2.2.2.2.2.2]], y.2.2.2.1), (1700001, .arr 1 (List.map (AV.int .i64) order), y.2.2.2.2.1), (1700002, .arr 1 (List.map (AV.int .i64) place), y.2.2.2.2.2.1), (1700003, .arr 3 (List.map eDNode nodes), y.2.2.2.2.2.2.1), (1700004, mapE (AV.int .i64) (.many [.i64, .i64, .i64]) unique, y.2.2.2.2.2.2.2.1), (1700005, mapE (AV.int .i64) (.many [.i64, .i64, .i64]) memo, y.2.2.2.2.2.2.2.2)]) (fun y h => ?_) ?_
  · obtain ⟨x, ⟨g10, g11, g12, g13, g14, g15, g16, g17⟩⟩ := y
    replace h := hJ x h
    show Vc _ _ _ _ (envOf [(1, .int .i64 mask), (2, .fn (.func 133) [] []), (3, .ptr rg 3 g10 0 0), (6, .ptr rg 6 g11 0 0), (8, .ptr rg 1700000 g12 0 0), (9, eL (AV.int .i64) r), (33, .bool x)]) (stL S rg [(3, .arr 3 [eDiagram d], g10), (6, .arr 3 [.agg [.nil, .nil, .int .i64 0]], g11), (1700000, .arr 5 [.agg [.sl 1 rg 1700001 g13 0 order.length, .sl 1 rg 1700002 g14 0 place.length, .sl 3 rg 1700003 g15 0 nodes.length, .map rg 1700004 g16, .map rg 1700005 g17]], g12), (1700001, .arr 1 (List.map (AV.int .i64) order), g13), (1700002, .arr 1 (List.map (AV.int .i64) place), g14), (1700003, .arr 3 (List.map eDNode nodes), g15), (1700004, mapE (AV.int .i64) (.many [.i64, .i64, .i64]) unique, g16), (1700005, mapE (AV.int .i64) (.many [.i64, .i64, .i64]) memo, g17)])
    refine Vc.cond' rfl (fun hb1 => ?_) (fun hb1 => ?_)
    · replace h := h.1 hb1
      refine qZ (rZ (wZ rg (o_build td25 zav25 bok25 szs25 sz25 (ps := []) rfl rfl (v := .agg [.nil, .nil, .int .i64 0]) rfl (wZ rg (o_iface (by rw [td83]; trivial) (v := .int .i64 3) rfl (wZ rg (o_storeB (atL (k := 6) rfl) sz25 (by decide) rfl (w := .agg [.nil, .nil, .int .i64 0]) rfl rfl rfl (v := .agg [.nil, .nil, .int .i64 0]) rfl setL (asZ (.iface 83 (.int .i64 3)) rfl (nZ ?_)))))))))
      refine Vc.ret' ?_
      refine res_cellA (atL (k := 6) rfl) sz25 (by decide) ag25 rfl rfl (v := .agg [.nil, .nil, .int .i64 0]) rfl (res_tmp (v := .iface 83 (.int .i64 3)) rfl (res_nil ?_))
      show Gives _ (.tuple [.agg [.nil, .nil, .int .i64 0], .iface 83 (.int .i64 3)]) _
      exact gives_out hrg (VW.tupL (vl' (VW.aggL (vl' (VW.nilL) (vl' (VW.nilL) (vl' vr (vn))))) (vl' vr (vn)))) (hQ _ _ h)
    replace h := h.2 hb1
    refine Vc.skip' ?_
    refine qZ (rZ (mvZ (eL (AV.int .i64) r) rfl (wZ rg (o_idxL td22 sz3 (by decide) (fun _ => rfl) rfl rfl h.1 ?_))))
    replace h := h.2
    refine wZ rg (o_loadI1 sz3 ag3 rfl rfl (v := .int .i64 (at' r 0)) rfl (asZ (.int .i64 (at' r 0)) rfl (nZ (qZ (qZ (rZ (wZ rg (o_faP td25 rfl rfl (by rw [sz22]; decide) rfl (wZ rg (o_loadB1 (atL (k := 3) rfl) sz22 ag22 rfl rfl (v := eL (AV.int .i64) d.Order) rfl (wZ rg (o_len td22 rfl (mvZ (.int .i64 0) rfl (nZ ?_))))))))))))))
    refine Vc.blk ?_
    obtain ⟨I, μ, h0, hI⟩ := h
    refine Vc.loop' (σ := ((Int × Int × (List GDNode) × (GMap Int) × (GMap Int)) × (Nat))) (fun y => I y.1) (fun y => μ y.1) (fun y => envOf [(1, .int .i64 mask), (2, .fn (.func 133) [] []), (6, .ptr rg 6 g11 0 0), (8, .ptr rg 1700000 g12 0 0), (11, .int .i64 y.1.1), (41, .int .i64 (d.Order.length : Int)), (42, .int .i64 y.1.2.1)]) (fun y => stL S rg [(6, .arr 3 [.agg [.nil, .nil, .int .i64 0]], g11), (1700000, .arr 5 [.agg [.sl 1 rg 1700001 g13 0 order.length, .sl 1 rg 1700002 g14 0 place.length, .sl 3 rg 1700003 y.2 0 y.1.2.2.1.length, .map rg 1700004 g16, .map rg 1700005 g17]], g12), (1700001, .arr 1 (List.map (AV.int .i64) order), g13), (1700002, .arr 1 (List.map (AV.int .i64) place), g14), (1700003, .arr 3 (List.map eDNode y.1.2.2.1), y.2), (1700004, mapE (AV.int .i64) (.many [.i64, .i64, .i64]) y.1.2.2.2.1, g16), (1700005, mapE (AV.int .i64) (.many [.i64, .i64, .i64]) y.1.2.2.2.2, g17)]) (((at' r 0), 0, nodes, unique, memo), g15) (canon (fc vr (fc vr (fc vr (fc vr (fc vr (fc vr (fc vr (fn)))))))) (sc rfl (sc rfl (sc rfl (sc rfl (sc rfl (sc rfl (sc rfl (sn))))))))) h0 (fun y h => ?_)
    obtain ⟨⟨r2, x1, x2, x3, x4⟩, g18⟩ := y
    replace h := hI (r2, x1, x2, x3, x4) h
    show Vc _ _ _ _ (envOf [(1, .int .i64 mask), (2, .fn (.func 133) [] []), (6, .ptr rg 6 g11 0 0), (8, .ptr rg 1700000 g12 0 0), (11, .int .i64 r2), (41, .int .i64 (d.Order.length : Int)), (42, .int .i64 x1)]) (stL S rg [(6, .arr 3 [.agg [.nil, .nil, .int .i64 0]], g11), (1700000, .arr 5 [.agg [.sl 1 rg 1700001 g13 0 order.length, .sl 1 rg 1700002 g14 0 place.length, .sl 3 rg 1700003 g18 0 x2.length, .map rg 1700004 g16, .map rg 1700005 g17]], g12), (1700001, .arr 1 (List.map (AV.int .i64) order), g13), (1700002, .arr 1 (List.map (AV.int .i64) place), g14), (1700003, .arr 3 (List.map eDNode x2), g18), (1700004, mapE (AV.int .i64) (.many [.i64, .i64, .i64]) x3, g16), (1700005, mapE (AV.int .i64) (.many [.i64, .i64, .i64]) x4, g17)])
    refine qZ (rZ (wZ rg (o_lss rfl rfl (nZ (qZ ?_)))))
    refine Vc.cond' rfl (fun hb2 => ?_) (fun hb2 => ?_)
    · replace h := h.1 hb2
      refine Vc.skip' ?_
      refine qZ ?_
      refine Vc.blk ?_
      refine qZ (rZ (mvZ (.int .i64 x1) rfl (asZ (.int .i64 x1) rfl (nZ (qZ (rZ (mvZ (.int .i64 mask) rfl (mvZ (.int .i64 x1) rfl (wZ rg (o_shr rfl rfl h.1 ?_))))))))))
      replace h := h.2
      refine wZ rg (o_and rfl rfl (wZ rg (o_eql rfl rfl (nZ ?_))))
      refine Vc.cond' rfl (fun hb3 => ?_) (fun hb3 => ?_)
      · replace h := h.1 hb3
        refine rZ ?_
        refine mvZ (.fn (.func 133) [] []) rfl (mvZ (.ptr rg 1700000 g12 0 0) rfl (mvZ (.ptr rg 1700000 g12 0 0) rfl (mvZ (.int .i64 r2) rfl (mvZ (.int .i64 x1) rfl ?_))))
        refine wZ rg (o_call (us := [.ptr rg 1700000 g12 0 0, AV.int .i64 r2, AV.int .i64 x1, AV.bool false]) rfl (vl' vr (vl' vr (vl' vr (vl' vr (vn))))) (ctrX (sx_c (atL (k := 1700000) rfl) (sx_c (atL (k := 1700003) rfl) (sx_c (atL (k := 1700004) rfl) (sx_c (atL (k := 1700005) rfl) (sx_c (atL (k := 1700001) rfl) (sx_c (atL (k := 1700002) rfl) (sx_n))))))) (decision_Table__Restrict__e_ctr (dk_c (ni_c (ni_o rfl) (ni_c (ni_o rfl) (ni_c (ni_o rfl) (ni_c (ni_o rfl) (ni_c (ni_o rfl) (ni_n)))))) (dk_c (ni_c (ni_o rfl) (ni_c (ni_o rfl) (ni_c (ni_o rfl) (ni_c (ni_o rfl) (ni_n))))) (dk_c (ni_c (ni_o rfl) (ni_c (ni_o rfl) (ni_c (ni_o rfl) (ni_n)))) (dk_c (ni_c (ni_o rfl) (ni_c (ni_o rfl) (ni_n))) (dk_c (ni_c (ni_o rfl) (ni_n)) (dk_c (ni_n) (dk_n))))))) h fun u u1 u2 r3 g19 h => ?_)))
        refine Wl.eqS (sy_c (sy_c (sy_c (sy_c (sx_c (atL (k := 1700001) rfl) (sx_c (atL (k := 1700002) rfl) (sx_n))) setL) setL) setL) setL) ?_
        refine mvZ (.ptr rg 1700000 g12 0 0) rfl (mvZ (.int .i64 r2) rfl (mvZ (.int .i64 x1) rfl ?_))
        refine wZ rg (o_call (us := [.ptr rg 1700000 g12 0 0, AV.int .i64 r2, AV.int .i64 x1, AV.bool true]) rfl (vl' vr (vl' vr (vl' vr (vl' vr (vn))))) (ctrX (sx_c (atL (k := 1700000) rfl) (sx_c (atL (k := 1700003) rfl) (sx_c (atL (k := 1700004) rfl) (sx_c (atL (k := 1700005) rfl) (sx_c (atL (k := 1700001) rfl) (sx_c (atL (k := 1700002) rfl) (sx_n))))))) (decision_Table__Restrict__e_ctr (dk_c (ni_c (ni_o rfl) (ni_c (ni_o rfl) (ni_c (ni_o rfl) (ni_c (ni_o rfl) (ni_c (ni_o rfl) (ni_n)))))) (dk_c (ni_c (ni_o rfl) (ni_c (ni_o rfl) (ni_c (ni_o rfl) (ni_c (ni_o rfl) (ni_n))))) (dk_c (ni_c (ni_o rfl) (ni_c (ni_o rfl) (ni_c (ni_o rfl) (ni_n)))) (dk_c (ni_c (ni_o rfl) (ni_c (ni_o rfl) (ni_n))) (dk_c (ni_c (ni_o rfl) (ni_n)) (dk_c (ni_n) (dk_n))))))) h fun u3 u4 u5 r4 g20 h => ?_)))
        refine Wl.eqS (sy_c (sy_c (sy_c (sy_c (sx_c (atL (k := 1700001) rfl) (sx_c (atL (k := 1700002) rfl) (sx_n))) setL) setL) setL) setL) ?_
        refine wZ rg (o_call (us := [.ptr rg 1700000 g12 0 0, AV.int .i64 r3, AV.int .i64 r4]) rfl (vl' vr (vl' vr (vl' vr (vn)))) (ctrX (sx_c (atL (k := 1700000) rfl) (sx_c (atL (k := 1700003) rfl) (sx_c (atL (k := 1700004) rfl) (sx_c (atL (k := 1700005) rfl) (sx_c (atL (k := 1700001) rfl) (sx_c (atL (k := 1700002) rfl) (sx_n))))))) (decision_Table__Or__e_ctr (dk_c (ni_c (ni_o rfl) (ni_c (ni_o rfl) (ni_c (ni_o rfl) (ni_c (ni_o rfl) (ni_c (ni_o rfl) (ni_n)))))) (dk_c (ni_c (ni_o rfl) (ni_c (ni_o rfl) (ni_c (ni_o rfl) (ni_c (ni_o rfl) (ni_n))))) (dk_c (ni_c (ni_o rfl) (ni_c (ni_o rfl) (ni_c (ni_o rfl) (ni_n)))) (dk_c (ni_c (ni_o rfl) (ni_c (ni_o rfl) (ni_n))) (dk_c (ni_c (ni_o rfl) (ni_n)) (dk_c (ni_n) (dk_n))))))) h fun u6 u7 u8 r5 g21 h => ?_)))
        refine Wl.eqS (sy_c (sy_c (sy_c (sy_c (sx_c (atL (k := 1700001) rfl) (sx_c (atL (k := 1700002) rfl) (sx_n))) setL) setL) setL) setL) ?_
        refine asZ (.int .i64 r5) rfl (nZ (rZ (wZ rg (o_addG rfl rfl h.1 ?_))))
        replace h := h.2
        refine mvZ (.int .i64 (x1 + 1)) rfl (nZ ?_)
        exact ⟨((r5, (x1 + 1), u6, u7, u8), g21), (canon (fc vr (fc vr (fc vr (fc vr (fc vr (fc vr (fc vr (fn)))))))) (sc rfl (sc rfl (sc rfl (sc rfl (sc rfl (sc rfl (sc rfl (sn))))))))), h⟩
      replace h := h.2 hb3
      refine Vc.skip' ?_
      refine rZ ?_
      refine wZ rg (o_addG rfl rfl h.1 ?_)
      replace h := h.2
      refine mvZ (.int .i64 (x1 + 1)) rfl (nZ ?_)
      exact ⟨((r2, (x1 + 1), x2, x3, x4), g18), (canon (fc vr (fc vr (fc vr (fc vr (fc vr (fc vr (fc vr (fn)))))))) (sc rfl (sc rfl (sc rfl (sc rfl (sc rfl (sc rfl (sc rfl (sn))))))))), h⟩
    replace h := h.2 hb2
    refine Vc.exit' (exB_self ?_)
    refine qZ (rZ (mvZ (.ptr rg 1700000 g12 0 0) rfl (mvZ (.int .i64 r2) rfl ?_)))
    refine wZ rg (o_call (us := [.ptr rg 1700000 g12 0 0, AV.int .i64 r2]) rfl (vl' vr (vl' vr (vn))) (ctrX (sx_c (atL (k := 1700000) rfl) (sx_c (atL (k := 1700001) rfl) (sx_c (atL (k := 1700002) rfl) (sx_c (atL (k := 1700003) rfl) (sx_c (atL (k := 1700004) rfl) (sx_c (atL (k := 1700005) rfl) (sx_n))))))) (algebra_result__e_ctr (dk_c (ni_c (ni_o rfl) (ni_c (ni_o rfl) (ni_c (ni_o rfl) (ni_c (ni_o rfl) (ni_c (ni_o rfl) (ni_n)))))) (dk_c (ni_c (ni_o rfl) (ni_c (ni_o rfl) (ni_c (ni_o rfl) (ni_c (ni_o rfl) (ni_n))))) (dk_c (ni_c (ni_o rfl) (ni_c (ni_o rfl) (ni_c (ni_o rfl) (ni_n)))) (dk_c (ni_c (ni_o rfl) (ni_c (ni_o rfl) (ni_n))) (dk_c (ni_c (ni_o rfl) (ni_n)) (dk_c (ni_n) (dk_n))))))) h fun r6 r7 h => ?_)))
    refine Wl.eqS (sx_c (atL (k := 1700000) rfl) (sx_c (atL (k := 1700001) rfl) (sx_c (atL (k := 1700002) rfl) (sx_c (atL (k := 1700003) rfl) (sx_c (atL (k := 1700004) rfl) (sx_c (atL (k := 1700005) rfl) (sx_n))))))) ?_
    refine wZ rg (o_extract (v := eDiagram r6) rfl rfl rfl (wZ rg (o_extract (v := eErr 83 r7) rfl rfl rfl (wZ rg (o_storeB (atL (k := 6) rfl) sz25 (by decide) rfl (w := eDiagram r6) rfl rfl rfl (v := eDiagram r6) rfl setL (asZ (eErr 83 r7) rfl (nZ ?_)))))))
    refine Vc.ret' ?_
    refine res_cellA (atL (k := 6) rfl) sz25 (by decide) ag25 rfl rfl (v := eDiagram r6) rfl (res_tmp (v := eErr 83 r7) rfl (res_nil ?_))
    show Gives _ (.tuple [eDiagram r6, eErr 83 r7]) _
    exact gives_out hrg (VW.tupL (vl' vr (vl' vr (vn)))) (hQ _ _ h)
  refine rZ ?_
  refine mvZ (.int .i64 mask) rfl (wZ rg (o_lss rfl rfl (mvZ (.bool (decide (mask < 0))) rfl ?_)))
  refine Wl.guard rfl rfl (fun hb4 => ?_) (fun hb4 => ?_)
  · replace h := h.2 hb4
    refine mvZ (.int .i64 mask) rfl ?_
    refine Wl.guardT rfl rfl hb4 ?_
    refine wZ rg (o_faP td25 rfl rfl (by rw [sz22]; decide) rfl ?_)
    refine Wl.guardT rfl rfl hb4 ?_
    refine wZ rg (o_loadB1 (atL (k := 3) rfl) sz22 ag22 rfl rfl (v := eL (AV.int .i64) d.Order) rfl ?_)
    refine Wl.guardT rfl rfl hb4 ?_
    refine wZ rg (o_len td22 rfl ?_)
    refine Wl.guardT rfl rfl hb4 ?_
    refine wZ rg (o_shlG rfl rfl h.1 ?_)
    replace h := h.2
    refine Wl.guardT rfl rfl hb4 ?_
    refine wZ rg (o_geq rfl rfl (wZ rg (o_pickF rfl hb4 (v := .bool (decide ((1 * 2 ^ (Int.toNat (d.Order.length : Int))) ≤ mask))) rfl (nZ ?_))))
    exact ⟨((decide ((1 * 2 ^ (Int.toNat (d.Order.length : Int))) ≤ mask)), (g1, g2, g4, g5, g6, g7, g8, g9)), (canon (fc vr (fc vr (fc vr (fc vr (fc vr (fc vr (fc vr (fn)))))))) (sc rfl (sc rfl (sc rfl (sc rfl (sc rfl (sc rfl (sc rfl (sc rfl (sn)))))))))), h⟩
  replace h := h.1 hb4
  refine Wl.guardF rfl rfl hb4 rfl ?_
  refine Wl.guardF rfl rfl hb4 rfl ?_
  refine Wl.guardF rfl rfl hb4 rfl ?_
  refine Wl.guardF rfl rfl hb4 rfl ?_
  refine Wl.guardF rfl rfl hb4 rfl ?_
  refine wZ rg (o_pickT rfl hb4 (v := .bool true) rfl (nZ ?_))
  exact ⟨(true, (g1, g2, g4, g5, g6, g7, g8, g9)), (canon (fc vr (fc vr (fc vr (fc vr (fc vr (fc vr (fc vr (fn)))))))) (sc rfl (sc rfl (sc rfl (sc rfl (sc rfl (sc rfl (sc rfl (sc rfl (sn)))))))))), h⟩
theorem algebra_Exists_ctr {d : GDiagram} {mask : Int} {Q : GDiagram → Option Int → Prop} {S : St} {R : AV → St → Prop} (h : algebra_Exists_W d mask Q) (hQ : ∀ r1 r2, Q r1 r2 → R (.tuple [eDiagram r1, eErr 83 r2]) S) :
    Ctr Try.prog 59 [eDiagram d, AV.int .i64 mask] S R := by
  unfold algebra_Exists_W at h
  refine enterT Try.func59 rfl Try.ntmps59 Try.results59 (by kernel_rfl) (fun rg hrg => ?_)
  refine qZ (rZ (wZ rg (o_box (v := eDiagram d) rfl rfl (kk := 3) rfl (by decide) (fun g1 => (wZ rg (o_alloc zav25 ok25 (kk := 3) rfl (fun g2 => (asZ .niface rfl (nZ (qZ (rZ (wZ rg (o_loadBA (atL (k := 2) rfl) sz25 (by decide) ag25 rfl rfl (v := eDiagram d) rfl (mvZ (.int .i64 mask) rfl ?_))))))))))))))
  refine wZ rg (o_call (us := [eDiagram d, AV.int .i64 mask, .fn (.func 133) [] []]) rfl (vl' vr (vl' vr (vl' vr (vn)))) (algebra_quantify__decision_Table__Or_ctr h fun r r1 h => (wZ rg (o_extract (v := eDiagram r) rfl rfl rfl (wZ rg (o_extract (v := eErr 83 r1) rfl rfl rfl (wZ rg (o_storeB (atL (k := 4) rfl) sz25 (by decide) rfl (w := eDiagram r) rfl rfl rfl (v := eDiagram r) rfl setL ?_))))))))
  refine asZ (eErr 83 r1) rfl (nZ ?_)
  refine Vc.ret' ?_
  refine res_cellA (atL (k := 4) rfl) sz25 (by decide) ag25 rfl rfl (v := eDiagram r) rfl (res_tmp (v := eErr 83 r1) rfl (res_nil ?_))
  show Gives _ (.tuple [eDiagram r, eErr 83 r1]) _
  exact gives_out hrg (VW.tupL (vl' vr (vl' vr (vn)))) (hQ _ _ h)
set_option maxHeartbeats 4000000 in
theorem algebra_quantify__decision_Table__And_ctr {d : GDiagram} {mask : Int} {Q : GDiagram → Option Int → Prop} {S : St} {R : AV → St → Prop} (h : algebra_quantify__decision_Table__And_W d mask Q) (hQ : ∀ r1 r2, Q r1 r2 → R (.tuple [eDiagram r1, eErr 83 r2]) S) :
    Ctr Try.prog 137 [eDiagram d, AV.int .i64 mask, .fn (.func 132) [] []] S R := by
  unfold algebra_quantify__decision_Table__And_W at h
  refine enterT Try.func137 rfl Try.ntmps137 Try.results137 (by kernel_rfl) (fun rg hrg => ?_)
  refine qZ (rZ (wZ rg (o_box (v := eDiagram d) rfl rfl (kk := 3) rfl (by decide) (fun g1 => (wZ rg (o_alloc zav25 ok25 (kk := 3) rfl (fun g2 => (asZ .niface rfl (nZ (qZ (rZ (wZ rg (o_loadBA (atL (k := 3) rfl) sz25 (by decide) ag25 rfl rfl (v := eDiagram d) rfl (wZ rg (o_bslice td142 ok25 zav25 (es := [eDiagram d]) rfl (kk := 3) rfl rfl rfl rfl rfl rfl (fun g3 => ?_))))))))))))))))
  refine Wl.wk (canon_freeze (k := 15) (xs := List.map eDiagram [d]) rfl (es := [(1, .int .i64 mask), (2, .fn (.func 132) [] []), (3, .ptr rg 3 g1 0 0), (6, .ptr rg 6 g2 0 0), (15, eL eDiagram [d])]) (fc vr (fc vr (fc vr (fc vr (fc (frz_full rfl) (fn)))))) (m := [(3, .arr 3 [eDiagram d], g1), (6, .arr 3 [.agg [.nil, .nil, .int .i64 0]], g2)]) (sc rfl (sc rfl (sn)))) ?_
  refine wZ rg (o_call (us := [eL eDiagram [d]]) rfl (vl' vr (vn)) (algebra_open_ctr rg 1700000 1700001 1700002 1700003 1700004 1700005 h (fun r r1 h => ?_) (fun order place nodes unique memo r r1 g4 g5 g6 g7 g8 g9 h => ?_)))
  · replace h := h.1 rfl
    refine mvZ (.tuple [.nilp, eL (AV.int .i64) r, eErr 83 r1]) rfl (wZ rg (o_extract (v := .nilp) rfl rfl rfl (wZ rg (o_extract (v := eL (AV.int .i64) r) rfl rfl rfl (wZ rg (o_extract (v := eErr 83 r1) rfl rfl rfl (asZ .nilp rfl (asZ (eL (AV.int .i64) r) rfl (asZ (eErr 83 r1) rfl (nZ (qZ (qZ (rZ (mvZ (eErr 83 r1) rfl (wZ rg (o_isnon td29 (E := 83) rfl rfl rfl (nZ ?_)))))))))))))))))
    refine Vc.cond' rfl (fun hb5 => ?_) (fun hb5 => ?_)
    · replace h := h.1 hb5
      refine qZ (rZ (wZ rg (o_build td25 zav25 bok25 szs25 sz25 (ps := []) rfl rfl (v := .agg [.nil, .nil, .int .i64 0]) rfl (mvZ (eErr 83 r1) rfl (wZ rg (o_storeB (atL (k := 6) rfl) sz25 (by decide) rfl (w := .agg [.nil, .nil, .int .i64 0]) rfl rfl rfl (v := .agg [.nil, .nil, .int .i64 0]) rfl setL (asZ (eErr 83 r1) rfl (nZ ?_))))))))
      refine Vc.ret' ?_
      refine res_cellA (atL (k := 6) rfl) sz25 (by decide) ag25 rfl rfl (v := .agg [.nil, .nil, .int .i64 0]) rfl (res_tmp (v := eErr 83 r1) rfl (res_nil ?_))
      show Gives _ (.tuple [.agg [.nil, .nil, .int .i64 0], eErr 83 r1]) _
      exact gives_out hrg (VW.tupL (vl' (VW.aggL (vl' (VW.nilL) (vl' (VW.nilL) (vl' vr (vn))))) (vl' vr (vn)))) (hQ _ _ h)
    replace h := h.2 hb5
    refine Vc.skip' ?_
    refine qZ ?_
    obtain ⟨J, h, hJ⟩ := h
    refine Vc.join' (σ := ((Bool) × (Nat × Nat))) (fun y => J y.1) (fun y => envOf [(1, .int .i64 mask), (2, .fn (.func 132) [] []), (3, .ptr rg 3 y.2.1 0 0), (6, .ptr rg 6 y.2.2 0 0), (8, .nilp), (9, eL (AV.int .i64) r), (33, .bool y.1)]) (fun y => stL S rg [(3, .arr 3 [eDiagram d], y.2.1), (6, .arr 3 [.agg [.nil, .nil, .int .i64 0]], y.2.2)]) (fun y h => ?_) ?_
    · obtain ⟨x5, ⟨g22, g23⟩⟩ := y
      replace h := hJ x5 h
      show Vc _ _ _ _ (envOf [(1, .int .i64 mask), (2, .fn (.func 132) [] []), (3, .ptr rg 3 g22 0 0), (6, .ptr rg 6 g23 0 0), (8, .nilp), (9, eL (AV.int .i64) r), (33, .bool x5)]) (stL S rg [(3, .arr 3 [eDiagram d], g22), (6, .arr 3 [.agg [.nil, .nil, .int .i64 0]], g23)])
      refine Vc.cond' rfl (fun hb6 => ?_) (fun hb6 => ?_)
      · replace h := h.1 hb6
        refine qZ (rZ (wZ rg (o_build td25 zav25 bok25 szs25 sz25 (ps := []) rfl rfl (v := .agg [.nil, .nil, .int .i64 0]) rfl (wZ rg (o_iface (by rw [td83]; trivial) (v := .int .i64 3) rfl (wZ rg (o_storeB (atL (k := 6) rfl) sz25 (by decide) rfl (w := .agg [.nil, .nil, .int .i64 0]) rfl rfl rfl (v := .agg [.nil, .nil, .int .i64 0]) rfl setL (asZ (.iface 83 (.int .i64 3)) rfl (nZ ?_)))))))))
        refine Vc.ret' ?_
        refine res_cellA (atL (k := 6) rfl) sz25 (by decide) ag25 rfl rfl (v := .agg [.nil, .nil, .int .i64 0]) rfl (res_tmp (v := .iface 83 (.int .i64 3)) rfl (res_nil ?_))
        show Gives _ (.tuple [.agg [.nil, .nil, .int .i64 0], .iface 83 (.int .i64 3)]) _
        exact gives_out hrg (VW.tupL (vl' (VW.aggL (vl' (VW.nilL) (vl' (VW.nilL) (vl' vr (vn))))) (vl' vr (vn)))) (hQ _ _ h)
      replace h := h.2 hb6
      refine Vc.skip' ?_
      refine qZ (rZ (mvZ (eL (AV.int .i64) r) rfl (wZ rg (o_idxL td22 sz3 (by decide) (fun _ => rfl) rfl rfl h.1 ?_))))
      replace h := h.2
      refine wZ rg (o_loadI1 sz3 ag3 rfl rfl (v := .int .i64 (at' r 0)) rfl (asZ (.int .i64 (at' r 0)) rfl (nZ (qZ (qZ (rZ (wZ rg (o_faP td25 rfl rfl (by rw [sz22]; decide) rfl (wZ rg (o_loadB1 (atL (k := 3) rfl) sz22 ag22 rfl rfl (v := eL (AV.int .i64) d.Order) rfl (wZ rg (o_len td22 rfl (mvZ (.int .i64 0) rfl (nZ ?_))))))))))))))
      refine Vc.blk ?_
      obtain ⟨I, μ, h0, hI⟩ := h
      refine Vc.loop' (σ := (Int × Int)) (fun y => I y) (fun y => μ y) (fun y => envOf [(1, .int .i64 mask), (2, .fn (.func 132) [] []), (6, .ptr rg 6 g23 0 0), (8, .nilp), (11, .int .i64 y.1), (41, .int .i64 (d.Order.length : Int)), (42, .int .i64 y.2)]) (fun y => stL S rg [(6, .arr 3 [.agg [.nil, .nil, .int .i64 0]], g23)]) ((at' r 0), 0) (canon (fc vr (fc vr (fc vr (fc vr (fc vr (fc vr (fc vr (fn)))))))) (sc rfl (sn))) h0 (fun y h => ?_)
      obtain ⟨r8, x6⟩ := y
      replace h := hI (r8, x6) h
      show Vc _ _ _ _ (envOf [(1, .int .i64 mask), (2, .fn (.func 132) [] []), (6, .ptr rg 6 g23 0 0), (8, .nilp), (11, .int .i64 r8), (41, .int .i64 (d.Order.length : Int)), (42, .int .i64 x6)]) (stL S rg [(6, .arr 3 [.agg [.nil, .nil, .int .i64 0]], g23)])
      refine qZ (rZ (wZ rg (o_lss rfl rfl (nZ (qZ ?_)))))
      refine Vc.cond' rfl (fun hb7 => ?_) (fun hb7 => ?_)
      · replace h := h.1 hb7
        refine Vc.skip' ?_
        refine qZ ?_
        refine Vc.blk ?_
        refine qZ (rZ (mvZ (.int .i64 x6) rfl (asZ (.int .i64 x6) rfl (nZ (qZ (rZ (mvZ (.int .i64 mask) rfl (mvZ (.int .i64 x6) rfl (wZ rg (o_shr rfl rfl h.1 ?_))))))))))
        replace h := h.2
        refine wZ rg (o_and rfl rfl (wZ rg (o_eql rfl rfl (nZ ?_))))
        refine Vc.cond' rfl (fun hb8 => ?_) (fun hb8 => ?_)
        · replace h := h.1 hb8
          refine rZ ?_
          refine mvZ (.fn (.func 132) [] []) rfl (mvZ .nilp rfl (mvZ .nilp rfl (mvZ (.int .i64 r8) rfl (mvZ (.int .i64 x6) rfl ?_))))
          exact h.elim
        replace h := h.2 hb8
        refine Vc.skip' ?_
        refine rZ ?_
        refine wZ rg (o_addG rfl rfl h.1 ?_)
        replace h := h.2
        refine mvZ (.int .i64 (x6 + 1)) rfl (nZ ?_)
        exact ⟨(r8, (x6 + 1)), (canon (fc vr (fc vr (fc vr (fc vr (fc vr (fc vr (fc vr (fn)))))))) (sc rfl (sn))), h⟩
      replace h := h.2 hb7
      refine Vc.exit' (exB_self ?_)
      refine qZ (rZ (mvZ .nilp rfl (mvZ (.int .i64 r8) rfl ?_)))
      exact h.elim
    refine rZ ?_
    refine mvZ (.int .i64 mask) rfl (wZ rg (o_lss rfl rfl (mvZ (.bool (decide (mask < 0))) rfl ?_)))
    refine Wl.guard rfl rfl (fun hb9 => ?_) (fun hb9 => ?_)
    · replace h := h.2 hb9
      refine mvZ (.int .i64 mask) rfl ?_
      refine Wl.guardT rfl rfl hb9 ?_
      refine wZ rg (o_faP td25 rfl rfl (by rw [sz22]; decide) rfl ?_)
      refine Wl.guardT rfl rfl hb9 ?_
      refine wZ rg (o_loadB1 (atL (k := 3) rfl) sz22 ag22 rfl rfl (v := eL (AV.int .i64) d.Order) rfl ?_)
      refine Wl.guardT rfl rfl hb9 ?_
      refine wZ rg (o_len td22 rfl ?_)
      refine Wl.guardT rfl rfl hb9 ?_
      refine wZ rg (o_shlG rfl rfl h.1 ?_)
      replace h := h.2
      refine Wl.guardT rfl rfl hb9 ?_
      refine wZ rg (o_geq rfl rfl (wZ rg (o_pickF rfl hb9 (v := .bool (decide ((1 * 2 ^ (Int.toNat (d.Order.length : Int))) ≤ mask))) rfl (nZ ?_))))
      exact ⟨((decide ((1 * 2 ^ (Int.toNat (d.Order.length : Int))) ≤ mask)), (g1, g2)), (canon (fc vr (fc vr (fc vr (fc vr (fc vr (fc vr (fc vr (fn)))))))) (sc rfl (sc rfl (sn)))), h⟩
    replace h := h.1 hb9
    refine Wl.guardF rfl rfl hb9 rfl ?_
    refine Wl.guardF rfl rfl hb9 rfl ?_
    refine Wl.guardF rfl rfl hb9 rfl ?_
    refine Wl.guardF rfl rfl hb9 rfl ?_
    refine Wl.guardF rfl rfl hb9 rfl ?_
    refine wZ rg (o_pickT rfl hb9 (v := .bool true) rfl (nZ ?_))
    exact ⟨(true, (g1, g2)), (canon (fc vr (fc vr (fc vr (fc vr (fc vr (fc vr (fc vr (fn)))))))) (sc rfl (sc rfl (sn)))), h⟩
  replace h := h.2 (order, place, nodes, unique, memo) rfl
  refine Wl.eqS (sy_c (sy_c (sy_c (sy_c (sy_c (sy_c (sx_n) setL) setL) setL) setL) setL) setL) ?_
  refine mvZ (.tuple [.ptr rg 1700000 g4 0 0, eL (AV.int .i64) r, eErr 83 r1]) rfl (wZ rg (o_extract (v := .ptr rg 1700000 g4 0 0) rfl rfl rfl (wZ rg (o_extract (v := eL (AV.int .i64) r) rfl rfl rfl (wZ rg (o_extract (v := eErr 83 r1) rfl rfl rfl (asZ (.ptr rg 1700000 g4 0 0) rfl (asZ (eL (AV.int .i64) r) rfl (asZ (eErr 83 r1) rfl (nZ (qZ (qZ (rZ (mvZ (eErr 83 r1) rfl ?_))))))))))))))
  refine wZ rg (o_isnon td29 (E := 83) rfl rfl rfl (nZ ?_))
  refine Vc.cond' rfl (fun hb => ?_) (fun hb => ?_)
  · replace h := h.1 hb
    refine qZ (rZ (wZ rg (o_build td25 zav25 bok25 szs25 sz25 (ps := []) rfl rfl (v := .agg [.nil, .nil, .int .i64 0]) rfl (mvZ (eErr 83 r1) rfl (wZ rg (o_storeB (atL (k := 6) rfl) sz25 (by decide) rfl (w := .agg [.nil, .nil, .int .i64 0]) rfl rfl rfl (v := .agg [.nil, .nil, .int .i64 0]) rfl setL (asZ (eErr 83 r1) rfl (nZ ?_))))))))
    refine Vc.ret' ?_
    refine res_cellA (atL (k := 6) rfl) sz25 (by decide) ag25 rfl rfl (v := .agg [.nil, .nil, .int .i64 0]) rfl (res_tmp (v := eErr 83 r1) rfl (res_nil ?_))
    show Gives _ (.tuple [.agg [.nil, .nil, .int .i64 0], eErr 83 r1]) _
    exact gives_out hrg (VW.tupL (vl' (VW.aggL (vl' (VW.nilL) (vl' (VW.nilL) (vl' vr (vn))))) (vl' vr (vn)))) (hQ _ _ h)
  replace h := h.2 hb
  refine Vc.skip' ?_
  refine qZ ?_
  obtain ⟨J, h, hJ⟩ := h
  refine Vc.join' (σ := ((Bool) × (Nat × Nat × Nat × Nat × Nat × Nat × Nat × Nat))) (fun y => J y.1) (fun y => envOf [(1, .int .i64 mask), (2, .fn (.func 132) [] []), (3, .ptr rg 3 y.2.1 0 0), (6, .ptr rg 6 y.2.2.1 0 0), (8, .ptr rg 1700000 y.2.2.2.1 0 0), (9, eL (AV.int .i64) r), (33, .bool y.1)]) (fun y => stL S rg [(3, .arr 3 [eDiagram d], y.2.1), (6, .arr 3 [.agg [.nil, .nil, .int .i64 0]], y.2.2.1), (1700000, .arr 5 [.agg [.sl 1 rg 1700001 y.2.2.2.2.1 0 order.length, .sl 1 rg 1700002 y.2.2.2.2.2.1 0 place.length, .sl 3 rg 1700003 y.2.2.2.2.2.2.1 0 nodes.length, .map rg 1700004 y.2.2.2.2.2.2.2.1, .map rg 1700005 y.2.2.2.2.2.2.2.2]], y.2.2.2.1), (1700001, .arr 1 (List.map (AV.int .i64) order), y.2.2.2.2.1), (1700002, .arr 1 (List.map (AV.int .i64) place), y.2.2.2.2.2.1), (1700003, .arr 3 (List.map eDNode nodes), y.2.2.2.2.2.2.1), (1700004, mapE (AV.int .i64) (.many [.i64, .i64, .i64]) unique, y.2.2.2.2.2.2.2.1), (1700005, mapE (AV.int .i64) (.many [.i64, .i64, .i64]) memo, y.2.2.2.2.2.2.2.2)]) (fun y h => ?_) ?_
  · obtain ⟨x, ⟨g10, g11, g12, g13, g14, g15, g16, g17⟩⟩ := y
    replace h := hJ x h
    show Vc _ _ _ _ (envOf [(1, .int .i64 mask), (2, .fn (.func 132) [] []), (3, .ptr rg 3 g10 0 0), (6, .ptr rg 6 g11 0 0), (8, .ptr rg 1700000 g12 0 0), (9, eL (AV.int .i64) r), (33, .bool x)]) (stL S rg [(3, .arr 3 [eDiagram d], g10), (6, .arr 3 [.agg [.nil, .nil, .int .i64 0]], g11), (1700000, .arr 5 [.agg [.sl 1 rg 1700001 g13 0 order.length, .sl 1 rg 1700002 g14 0 place.length, .sl 3 rg 1700003 g15 0 nodes.length, .map rg 1700004 g16, .map rg 1700005 g17]], g12), (1700001, .arr 1 (List.map (AV.int .i64) order), g13), (1700002, .arr 1 (List.map (AV.int .i64) place), g14), (1700003, .arr 3 (List.map eDNode nodes), g15), (1700004, mapE (AV.int .i64) (.many [.i64, .i64, .i64]) unique, g16), (1700005, mapE (AV.int .i64) (.many [.i64, .i64, .i64]) memo, g17)])
    refine Vc.cond' rfl (fun hb1 => ?_) (fun hb1 => ?_)
    · replace h := h.1 hb1
      refine qZ (rZ (wZ rg (o_build td25 zav25 bok25 szs25 sz25 (ps := []) rfl rfl (v := .agg [.nil, .nil, .int .i64 0]) rfl (wZ rg (o_iface (by rw [td83]; trivial) (v := .int .i64 3) rfl (wZ rg (o_storeB (atL (k := 6) rfl) sz25 (by decide) rfl (w := .agg [.nil, .nil, .int .i64 0]) rfl rfl rfl (v := .agg [.nil, .nil, .int .i64 0]) rfl setL (asZ (.iface 83 (.int .i64 3)) rfl (nZ ?_)))))))))
      refine Vc.ret' ?_
      refine res_cellA (atL (k := 6) rfl) sz25 (by decide) ag25 rfl rfl (v := .agg [.nil, .nil, .int .i64 0]) rfl (res_tmp (v := .iface 83 (.int .i64 3)) rfl (res_nil ?_))
      show Gives _ (.tuple [.agg [.nil, .nil, .int .i64 0], .iface 83 (.int .i64 3)]) _
      exact gives_out hrg (VW.tupL (vl' (VW.aggL (vl' (VW.nilL) (vl' (VW.nilL) (vl' vr (vn))))) (vl' vr (vn)))) (hQ _ _ h)
    replace h := h.2 hb1
    refine Vc.skip' ?_
    refine qZ (rZ (mvZ (eL (AV.int .i64) r) rfl (wZ rg (o_idxL td22 sz3 (by decide) (fun _ => rfl) rfl rfl h.1 ?_))))
    replace h := h.2
    refine wZ rg (o_loadI1 sz3 ag3 rfl rfl (v := .int .i64 (at' r 0)) rfl (asZ (.int .i64 (at' r 0)) rfl (nZ (qZ (qZ (rZ (wZ rg (o_faP td25 rfl rfl (by rw [sz22]; decide) rfl (wZ rg (o_loadB1 (atL (k := 3) rfl) sz22 ag22 rfl rfl (v := eL (AV.int .i64) d.Order) rfl (wZ rg (o_len td22 rfl (mvZ (.int .i64 0) rfl (nZ ?_))))))))))))))
    refine Vc.blk ?_
    obtain ⟨I, μ, h0, hI⟩ := h
    refine Vc.loop' (σ := ((Int × Int × (List GDNode) × (GMap Int) × (GMap Int)) × (Nat))) (fun y => I y.1) (fun y => μ y.1) (fun y => envOf [(1, .int .i64 mask), (2, .fn (.func 132) [] []), (6, .ptr rg 6 g11 0 0), (8, .ptr rg 1700000 g12 0 0), (11, .int .i64 y.1.1), (41, .int .i64 (d.Order.length : Int)), (42, .int .i64 y.1.2.1)]) (fun y => stL S rg [(6, .arr 3 [.agg [.nil, .nil, .int .i64 0]], g11), (1700000, .arr 5 [.agg [.sl 1 rg 1700001 g13 0 order.length, .sl 1 rg 1700002 g14 0 place.length, .sl 3 rg 1700003 y.2 0 y.1.2.2.1.length, .map rg 1700004 g16, .map rg 1700005 g17]], g12), (1700001, .arr 1 (List.map (AV.int .i64) order), g13), (1700002, .arr 1 (List.map (AV.int .i64) place), g14), (1700003, .arr 3 (List.map eDNode y.1.2.2.1), y.2), (1700004, mapE (AV.int .i64) (.many [.i64, .i64, .i64]) y.1.2.2.2.1, g16), (1700005, mapE (AV.int .i64) (.many [.i64, .i64, .i64]) y.1.2.2.2.2, g17)]) (((at' r 0), 0, nodes, unique, memo), g15) (canon (fc vr (fc vr (fc vr (fc vr (fc vr (fc vr (fc vr (fn)))))))) (sc rfl (sc rfl (sc rfl (sc rfl (sc rfl (sc rfl (sc rfl (sn))))))))) h0 (fun y h => ?_)
    obtain ⟨⟨r2, x1, x2, x3, x4⟩, g18⟩ := y
    replace h := hI (r2, x1, x2, x3, x4) h
    show Vc _ _ _ _ (envOf [(1, .int .i64 mask), (2, .fn (.func 132) [] []), (6, .ptr rg 6 g11 0 0), (8, .ptr rg 1700000 g12 0 0), (11, .int .i64 r2), (41, .int .i64 (d.Order.length : Int)), (42, .int .i64 x1)]) (stL S rg [(6, .arr 3 [.agg [.nil, .nil, .int .i64 0]], g11), (1700000, .arr 5 [.agg [.sl 1 rg 1700001 g13 0 order.length, .sl 1 rg 1700002 g14 0 place.length, .sl 3 rg 1700003 g18 0 x2.length, .map rg 1700004 g16, .map rg 1700005 g17]], g12), (1700001, .arr 1 (List.map (AV.int .i64) order), g13), (1700002, .arr 1 (List.map (AV.int .i64) place), g14), (1700003, .arr 3 (List.map eDNode x2), g18), (1700004, mapE (AV.int .i64) (.many [.i64, .i64, .i64]) x3, g16), (1700005, mapE (AV.int .i64) (.many [.i64, .i64, .i64]) x4, g17)])
    refine qZ (rZ (wZ rg (o_lss rfl rfl (nZ (qZ ?_)))))
    refine Vc.cond' rfl (fun hb2 => ?_) (fun hb2 => ?_)
    · replace h := h.1 hb2
      refine Vc.skip' ?_
      refine qZ ?_
      refine Vc.blk ?_
      refine qZ (rZ (mvZ (.int .i64 x1) rfl (asZ (.int .i64 x1) rfl (nZ (qZ (rZ (mvZ (.int .i64 mask) rfl (mvZ (.int .i64 x1) rfl (wZ rg (o_shr rfl rfl h.1 ?_))))))))))
      replace h := h.2
      refine wZ rg (o_and rfl rfl (wZ rg (o_eql rfl rfl (nZ ?_))))
      refine Vc.cond' rfl (fun hb3 => ?_) (fun hb3 => ?_)
      · replace h := h.1 hb3
        refine rZ ?_
        refine mvZ (.fn (.func 132) [] []) rfl (mvZ (.ptr rg 1700000 g12 0 0) rfl (mvZ (.ptr rg 1700000 g12 0 0) rfl (mvZ (.int .i64 r2) rfl (mvZ (.int .i64 x1) rfl ?_))))
        refine wZ rg (o_call (us := [.ptr rg 1700000 g12 0 0, AV.int .i64 r2, AV.int .i64 x1, AV.bool false]) rfl (vl' vr (vl' vr (vl' vr (vl' vr (vn))))) (ctrX (sx_c (atL (k := 1700000) rfl) (sx_c (atL (k := 1700003) rfl) (sx_c (atL (k := 1700004) rfl) (sx_c (atL (k := 1700005) rfl) (sx_c (atL (k := 1700001) rfl) (sx_c (atL (k := 1700002) rfl) (sx_n))))))) (decision_Table__Restrict__e_ctr (dk_c (ni_c (ni_o rfl) (ni_c (ni_o rfl) (ni_c (ni_o rfl) (ni_c (ni_o rfl) (ni_c (ni_o rfl) (ni_n)))))) (dk_c (ni_c (ni_o rfl) (ni_c (ni_o rfl) (ni_c (ni_o rfl) (ni_c (ni_o rfl) (ni_n))))) (dk_c (ni_c (ni_o rfl) (ni_c (ni_o rfl) (ni_c (ni_o rfl) (ni_n)))) (dk_c (ni_c (ni_o rfl) (ni_c (ni_o rfl) (ni_n))) (dk_c (ni_c (ni_o rfl) (ni_n)) (dk_c (ni_n) (dk_n))))))) h fun u u1 u2 r3 g19 h => ?_)))
        refine Wl.eqS (sy_c (sy_c (sy_c (sy_c (sx_c (atL (k := 1700001) rfl) (sx_c (atL (k := 1700002) rfl) (sx_n))) setL) setL) setL) setL) ?_
        refine mvZ (.ptr rg 1700000 g12 0 0) rfl (mvZ (.int .i64 r2) rfl (mvZ (.int .i64 x1) rfl ?_))
        refine wZ rg (o_call (us := [.ptr rg 1700000 g12 0 0, AV.int .i64 r2, AV.int .i64 x1, AV.bool true]) rfl (vl' vr (vl' vr (vl' vr (vl' vr (vn))))) (ctrX (sx_c (atL (k := 1700000) rfl) (sx_c (atL (k := 1700003) rfl) (sx_c (atL (k := 1700004) rfl) (sx_c (atL (k := 1700005) rfl) (sx_c (atL (k := 1700001) rfl) (sx_c (atL (k := 1700002) rfl) (sx_n))))))) (decision_Table__Restrict__e_ctr (dk_c (ni_c (ni_o rfl) (ni_c (ni_o rfl) (ni_c (ni_o rfl) (ni_c (ni_o rfl) (ni_c (ni_o rfl) (ni_n)))))) (dk_c (ni_c (ni_o rfl) (ni_c (ni_o rfl) (ni_c (ni_o rfl) (ni_c (ni_o rfl) (ni_n))))) (dk_c (ni_c (ni_o rfl) (ni_c (ni_o rfl) (ni_c (ni_o rfl) (ni_n)))) (dk_c (ni_c (ni_o rfl) (ni_c (ni_o rfl) (ni_n))) (dk_c (ni_c (ni_o rfl) (ni_n)) (dk_c (ni_n) (dk_n))))))) h fun u3 u4 u5 r4 g20 h => ?_)))
        refine Wl.eqS (sy_c (sy_c (sy_c (sy_c (sx_c (atL (k := 1700001) rfl) (sx_c (atL (k := 1700002) rfl) (sx_n))) setL) setL) setL) setL) ?_
        refine wZ rg (o_call (us := [.ptr rg 1700000 g12 0 0, AV.int .i64 r3, AV.int .i64 r4]) rfl (vl' vr (vl' vr (vl' vr (vn)))) (ctrX (sx_c (atL (k := 1700000) rfl) (sx_c (atL (k := 1700003) rfl) (sx_c (atL (k := 1700004) rfl) (sx_c (atL (k := 1700005) rfl) (sx_c (atL (k := 1700001) rfl) (sx_c (atL (k := 1700002) rfl) (sx_n))))))) (decision_Table__And__e_ctr (dk_c (ni_c (ni_o rfl) (ni_c (ni_o rfl) (ni_c (ni_o rfl) (ni_c (ni_o rfl) (ni_c (ni_o rfl) (ni_n)))))) (dk_c (ni_c (ni_o rfl) (ni_c (ni_o rfl) (ni_c (ni_o rfl) (ni_c (ni_o rfl) (ni_n))))) (dk_c (ni_c (ni_o rfl) (ni_c (ni_o rfl) (ni_c (ni_o rfl) (ni_n)))) (dk_c (ni_c (ni_o rfl) (ni_c (ni_o rfl) (ni_n))) (dk_c (ni_c (ni_o rfl) (ni_n)) (dk_c (ni_n) (dk_n))))))) h fun u6 u7 u8 r5 g21 h => ?_)))
        refine Wl.eqS (sy_c (sy_c (sy_c (sy_c (sx_c (atL (k := 1700001) rfl) (sx_c (atL (k := 1700002) rfl) (sx_n))) setL) setL) setL) setL) ?_
        refine asZ (.int .i64 r5) rfl (nZ (rZ (wZ rg (o_addG rfl rfl h.1 ?_))))
        replace h := h.2
        refine mvZ (.int .i64 (x1 + 1)) rfl (nZ ?_)
        exact ⟨((r5, (x1 + 1), u6, u7, u8), g21), (canon (fc vr (fc vr (fc vr (fc vr (fc vr (fc vr (fc vr (fn)))))))) (sc rfl (sc rfl (sc rfl (sc rfl (sc rfl (sc rfl (sc rfl (sn))))))))), h⟩
      replace h := h.2 hb3
      refine Vc.skip' ?_
      refine rZ ?_
      refine wZ rg (o_addG rfl rfl h.1 ?_)
      replace h := h.2
      refine mvZ (.int .i64 (x1 + 1)) rfl (nZ ?_)
      exact ⟨((r2, (x1 + 1), x2, x3, x4), g18), (canon (fc vr (fc vr (fc vr (fc vr (fc vr (fc vr (fc vr (fn)))))))) (sc rfl (sc rfl (sc rfl (sc rfl (sc rfl (sc rfl (sc rfl (sn))))))))), h⟩
    replace h := h.2 hb2
    refine Vc.exit' (exB_self ?_)
    refine qZ (rZ (mvZ (.ptr rg 1700000 g12 0 0) rfl (mvZ (.int .i64 r2) rfl ?_)))
    refine wZ rg (o_call (us := [.ptr rg 1700000 g12 0 0, AV.int .i64 r2]) rfl (vl' vr (vl' vr (vn))) (ctrX (sx_c (atL (k := 1700000) rfl) (sx_c (atL (k := 1700001) rfl) (sx_c (atL (k := 1700002) rfl) (sx_c (atL (k := 1700003) rfl) (sx_c (atL (k := 1700004) rfl) (sx_c (atL (k := 1700005) rfl) (sx_n))))))) (algebra_result__e_ctr (dk_c (ni_c (ni_o rfl) (ni_c (ni_o rfl) (ni_c (ni_o rfl) (ni_c (ni_o rfl) (ni_c (ni_o rfl) (ni_n)))))) (dk_c (ni_c (ni_o rfl) (ni_c (ni_o rfl) (ni_c (ni_o rfl) (ni_c (ni_o rfl) (ni_n))))) (dk_c (ni_c (ni_o rfl) (ni_c (ni_o rfl) (ni_c (ni_o rfl) (ni_n)))) (dk_c (ni_c (ni_o rfl) (ni_c (ni_o rfl) (ni_n))) (dk_c (ni_c (ni_o rfl) (ni_n)) (dk_c (ni_n) (dk_n))))))) h fun r6 r7 h => ?_)))
    refine Wl.eqS (sx_c (atL (k := 1700000) rfl) (sx_c (atL (k := 1700001) rfl) (sx_c (atL (k := 1700002) rfl) (sx_c (atL (k := 1700003) rfl) (sx_c (atL (k := 1700004) rfl) (sx_c (atL (k := 1700005) rfl) (sx_n))))))) ?_
    refine wZ rg (o_extract (v := eDiagram r6) rfl rfl rfl (wZ rg (o_extract (v := eErr 83 r7) rfl rfl rfl (wZ rg (o_storeB (atL (k := 6) rfl) sz25 (by decide) rfl (w := eDiagram r6) rfl rfl rfl (v := eDiagram r6) rfl setL (asZ (eErr 83 r7) rfl (nZ ?_)))))))
    refine Vc.ret' ?_
    refine res_cellA (atL (k := 6) rfl) sz25 (by decide) ag25 rfl rfl (v := eDiagram r6) rfl (res_tmp (v := eErr 83 r7) rfl (res_nil ?_))
    show Gives _ (.tuple [eDiagram r6, eErr 83 r7]) _
    exact gives_out hrg (VW.tupL (vl' vr (vl' vr (vn)))) (hQ _ _ h)
  refine rZ ?_
  refine mvZ (.int .i64 mask) rfl (wZ rg (o_lss rfl rfl (mvZ (.bool (decide (mask < 0))) rfl ?_)))
  refine Wl.guard rfl rfl (fun hb4 => ?_) (fun hb4 => ?_)
  · replace h := h.2 hb4
    refine mvZ (.int .i64 mask) rfl ?_
    refine Wl.guardT rfl rfl hb4 ?_
    refine wZ rg (o_faP td25 rfl rfl (by rw [sz22]; decide) rfl ?_)
    refine Wl.guardT rfl rfl hb4 ?_
    refine wZ rg (o_loadB1 (atL (k := 3) rfl) sz22 ag22 rfl rfl (v := eL (AV.int .i64) d.Order) rfl ?_)
    refine Wl.guardT rfl rfl hb4 ?_
    refine wZ rg (o_len td22 rfl ?_)
    refine Wl.guardT rfl rfl hb4 ?_
    refine wZ rg (o_shlG rfl rfl h.1 ?_)
    replace h := h.2
    refine Wl.guardT rfl rfl hb4 ?_
    refine wZ rg (o_geq rfl rfl (wZ rg (o_pickF rfl hb4 (v := .bool (decide ((1 * 2 ^ (Int.toNat (d.Order.length : Int))) ≤ mask))) rfl (nZ ?_))))
    exact ⟨((decide ((1 * 2 ^ (Int.toNat (d.Order.length : Int))) ≤ mask)), (g1, g2, g4, g5, g6, g7, g8, g9)), (canon (fc vr (fc vr (fc vr (fc vr (fc vr (fc vr (fc vr (fn)))))))) (sc rfl (sc rfl (sc rfl (sc rfl (sc rfl (sc rfl (sc rfl (sc rfl (sn)))))))))), h⟩
  replace h := h.1 hb4
  refine Wl.guardF rfl rfl hb4 rfl ?_
  refine Wl.guardF rfl rfl hb4 rfl ?_
  refine Wl.guardF rfl rfl hb4 rfl ?_
  refine Wl.guardF rfl rfl hb4 rfl ?_
  refine Wl.guardF rfl rfl hb4 rfl ?_
  refine wZ rg (o_pickT rfl hb4 (v := .bool true) rfl (nZ ?_))
  exact ⟨(true, (g1, g2, g4, g5, g6, g7, g8, g9)), (canon (fc vr (fc vr (fc vr (fc vr (fc vr (fc vr (fc vr (fn)))))))) (sc rfl (sc rfl (sc rfl (sc rfl (sc rfl (sc rfl (sc rfl (sc rfl (sn)))))))))), h⟩
theorem algebra_Forall_ctr {d : GDiagram} {mask : Int} {Q : GDiagram → Option Int → Prop} {S : St} {R : AV → St → Prop} (h : algebra_Forall_W d mask Q) (hQ : ∀ r1 r2, Q r1 r2 → R (.tuple [eDiagram r1, eErr 83 r2]) S) :
    Ctr Try.prog 60 [eDiagram d, AV.int .i64 mask] S R := by
  unfold algebra_Forall_W at h
  refine enterT Try.func60 rfl Try.ntmps60 Try.results60 (by kernel_rfl) (fun rg hrg => ?_)
  refine qZ (rZ (wZ rg (o_box (v := eDiagram d) rfl rfl (kk := 3) rfl (by decide) (fun g1 => (wZ rg (o_alloc zav25 ok25 (kk := 3) rfl (fun g2 => (asZ .niface rfl (nZ (qZ (rZ (wZ rg (o_loadBA (atL (k := 2) rfl) sz25 (by decide) ag25 rfl rfl (v := eDiagram d) rfl (mvZ (.int .i64 mask) rfl ?_))))))))))))))
  refine wZ rg (o_call (us := [eDiagram d, AV.int .i64 mask, .fn (.func 132) [] []]) rfl (vl' vr (vl' vr (vl' vr (vn)))) (algebra_quantify__decision_Table__And_ctr h fun r r1 h => (wZ rg (o_extract (v := eDiagram r) rfl rfl rfl (wZ rg (o_extract (v := eErr 83 r1) rfl rfl rfl (wZ rg (o_storeB (atL (k := 4) rfl) sz25 (by decide) rfl (w := eDiagram r) rfl rfl rfl (v := eDiagram r) rfl setL ?_))))))))
  refine asZ (eErr 83 r1) rfl (nZ ?_)
  refine Vc.ret' ?_
  refine res_cellA (atL (k := 4) rfl) sz25 (by decide) ag25 rfl rfl (v := eDiagram r) rfl (res_tmp (v := eErr 83 r1) rfl (res_nil ?_))
  show Gives _ (.tuple [eDiagram r, eErr 83 r1]) _
  exact gives_out hrg (VW.tupL (vl' vr (vl' vr (vn)))) (hQ _ _ h)
end Go.Proofs.Ytllegjdggcmgaaa
