/- Walks of functions. Conditions: none. -/
import Derived.Test.YtiamkdpljeemkaaWa
import Derived.Test.YtiamkdpljeemkaaGgTy
import Derived.Test.YtiamkdpljeemkaaK2
/- Walks of functions. Conditions: none. -/
namespace Go.Proofs.Ytiamkdpljeemkaa
open Go.Gg
set_option maxRecDepth 100000
theorem sifting_Move_ctr {d : GDiagram} {event : Int} {place : Int} {Q : GDiagram → Option Int → Prop} {S : St} {R : AV → St → Prop} (h : sifting_Move_W d event place Q) (hQ : ∀ r1 r2, Q r1 r2 → R (.tuple [eDiagram r1, eErr 73 r2]) S) :
    Ctr Try.prog 62 [eDiagram d, AV.int .i64 event, AV.int .i64 place] S R := by
  unfold sifting_Move_W at h
  refine enterT Try.func62 rfl Try.ntmps62 Try.results62 (by kernel_rfl) (fun rg hrg => ?_)
  refine qZ (rZ (wZ rg (o_box (v := eDiagram d) rfl rfl (kk := 3) rfl (by decide) (fun g1 => (wZ rg (o_alloc zav30 ok30 (kk := 3) rfl (fun g2 => (asZ .niface rfl (nZ (qZ (qZ (rZ (wZ rg (o_loadBA (atL (k := 3) rfl) sz30 (by decide) ag30 rfl rfl (v := eDiagram d) rfl (wZ rg (o_call (us := [eDiagram d]) rfl (vl' vr (vn)) (diagram_Check_ctr h fun err h => (asZ (eErr 73 err) rfl (nZ (qZ (rZ ?_)))))))))))))))))))))
  refine mvZ (eErr 73 err) rfl (wZ rg (o_isnon td32 (E := 73) rfl rfl rfl (nZ ?_)))
  refine Vc.cond' rfl (fun hb => ?_) (fun hb => ?_)
  · replace h := h.1 hb
    refine qZ (rZ (wZ rg (o_build td30 zav30 bok30 szs30 sz30 (ps := []) rfl rfl (v := .agg [.nil, .nil, .int .i64 0]) rfl (mvZ (eErr 73 err) rfl (wZ rg (o_storeB (atL (k := 6) rfl) sz30 (by decide) rfl (w := .agg [.nil, .nil, .int .i64 0]) rfl rfl rfl (v := .agg [.nil, .nil, .int .i64 0]) rfl setL (asZ (eErr 73 err) rfl (nZ ?_))))))))
    refine Vc.ret' ?_
    refine res_cellA (atL (k := 6) rfl) sz30 (by decide) ag30 rfl rfl (v := .agg [.nil, .nil, .int .i64 0]) rfl (res_tmp (v := eErr 73 err) rfl (res_nil ?_))
    show Gives _ (.tuple [.agg [.nil, .nil, .int .i64 0], eErr 73 err]) _
    exact gives_out hrg (VW.tupL (vl' (VW.aggL (vl' (VW.nilL) (vl' (VW.nilL) (vl' vr (vn))))) (vl' vr (vn)))) (hQ _ _ h)
  replace h := h.2 hb
  refine Vc.skip' ?_
  refine qZ ?_
  obtain ⟨J, h, hJ⟩ := h
  refine Vc.join' (σ := ((Bool) × (Nat × Nat))) (fun y => J y.1) (fun y => envOf [(1, .int .i64 event), (2, .int .i64 place), (3, .ptr rg 3 y.2.1 0 0), (6, .ptr rg 6 y.2.2 0 0), (27, .bool y.1)]) (fun y => stL S rg [(3, .arr 3 [eDiagram d], y.2.1), (6, .arr 3 [.agg [.nil, .nil, .int .i64 0]], y.2.2)]) (fun y h => ?_) ?_
  · obtain ⟨x, ⟨g3, g4⟩⟩ := y
    replace h := hJ x h
    show Vc _ _ _ _ (envOf [(1, .int .i64 event), (2, .int .i64 place), (3, .ptr rg 3 g3 0 0), (6, .ptr rg 6 g4 0 0), (27, .bool x)]) (stL S rg [(3, .arr 3 [eDiagram d], g3), (6, .arr 3 [.agg [.nil, .nil, .int .i64 0]], g4)])
    refine Vc.cond' rfl (fun hb1 => ?_) (fun hb1 => ?_)
    · replace h := h.1 hb1
      refine qZ (rZ (wZ rg (o_build td30 zav30 bok30 szs30 sz30 (ps := []) rfl rfl (v := .agg [.nil, .nil, .int .i64 0]) rfl (wZ rg (o_iface (by rw [td73]; trivial) (v := .int .i64 10) rfl (wZ rg (o_storeB (atL (k := 6) rfl) sz30 (by decide) rfl (w := .agg [.nil, .nil, .int .i64 0]) rfl rfl rfl (v := .agg [.nil, .nil, .int .i64 0]) rfl setL (asZ (.iface 73 (.int .i64 10)) rfl (nZ ?_)))))))))
      refine Vc.ret' ?_
      refine res_cellA (atL (k := 6) rfl) sz30 (by decide) ag30 rfl rfl (v := .agg [.nil, .nil, .int .i64 0]) rfl (res_tmp (v := .iface 73 (.int .i64 10)) rfl (res_nil ?_))
      show Gives _ (.tuple [.agg [.nil, .nil, .int .i64 0], .iface 73 (.int .i64 10)]) _
      exact gives_out hrg (VW.tupL (vl' (VW.aggL (vl' (VW.nilL) (vl' (VW.nilL) (vl' vr (vn))))) (vl' vr (vn)))) (hQ _ _ h)
    replace h := h.2 hb1
    refine Vc.skip' ?_
    refine qZ ?_
    obtain ⟨r, hc, h⟩ := h
    obtain ⟨r1, r2, hc1, h⟩ := h
    refine Vc.drawn' mixed rg (usOf [(5, pc (eL (AV.int .i64) r)), (6, pc (.tuple [eDiagram r1, eErr 73 r2]))]) (by kernel_rfl) ?_
    refine dL (E := ([(rg, 3)], [])) rfl rfl (by simp) (cfn) (o_loadBA (atL (k := 3) rfl) sz30 (by decide) ag30 rfl rfl (v := eDiagram d) rfl (dP rfl rfl (o_faP td30 rfl rfl (by rw [sz25]; decide) rfl (dL (E := ([(rg, 3)], [])) rfl rfl (by simp) (cfa (by simp [apartE]) (cfn)) (o_loadB1 (atL (k := 3) rfl) sz25 ag25 rfl rfl (v := eL (AV.int .i64) d.Order) rfl (dP rfl rfl (o_move (v := .int .i64 event) rfl ?_)))))))
    refine dP rfl rfl (o_move (v := .int .i64 place) rfl ?_)
    refine dC (vs := [eL (AV.int .i64) d.Order, AV.int .i64 event, AV.int .i64 place]) rfl (vl' vr (vl' vr (vl' vr (vn)))) (fun _ => sifting_moved_ctr hc (fun _ hr => ⟨by rw [hr], rfl⟩)) rfl ?_
    refine dC (vs := [eDiagram d, eL (AV.int .i64) r]) rfl (vl' vr (vl' vr (vn))) (fun _ => sifting_reorder_ctr hc1 (fun _ _ hr => ⟨by rw [hr.1, hr.2], rfl⟩)) rfl ?_
    refine dP rfl rfl (o_extract (v := eDiagram r1) rfl rfl rfl (dP rfl rfl (o_extract (v := eErr 73 r2) rfl rfl rfl (dL (E := ([], [(rg, 6)])) rfl rfl (by simp) (cfo (by kernel_rfl) (cfo (by kernel_rfl) (cfn))) (o_storeB (atL (k := 6) rfl) sz30 (by decide) rfl (w := eDiagram r1) rfl rfl rfl (v := eDiagram r1) rfl setL (dP rfl rfl (o_assign (v := eErr 73 r2) rfl (dN ?_))))))))
    refine Vc.ret' ?_
    refine res_cellA (atL (k := 6) rfl) sz30 (by decide) ag30 rfl rfl (v := eDiagram r1) rfl (res_tmp (v := eErr 73 r2) rfl (res_nil ?_))
    show Gives _ (.tuple [eDiagram r1, eErr 73 r2]) _
    exact gives_out hrg (VW.tupL (vl' vr (vl' vr (vn)))) (hQ _ _ h)
  refine rZ ?_
  refine mvZ (.int .i64 event) rfl (mvZ (.int .i64 place) rfl (wZ rg (o_min rfl rfl (wZ rg (o_lss rfl rfl (mvZ (.bool (decide ((min event place) < 0))) rfl ?_))))))
  refine Wl.guard rfl rfl (fun hb2 => ?_) (fun hb2 => ?_)
  · replace h := h.2 hb2
    refine mvZ (.int .i64 event) rfl ?_
    refine Wl.guardT rfl rfl hb2 ?_
    refine mvZ (.int .i64 place) rfl ?_
    refine Wl.guardT rfl rfl hb2 ?_
    refine wZ rg (o_max rfl rfl ?_)
    refine Wl.guardT rfl rfl hb2 ?_
    refine wZ rg (o_faP td30 rfl rfl (by rw [sz25]; decide) rfl ?_)
    refine Wl.guardT rfl rfl hb2 ?_
    refine wZ rg (o_loadB1 (atL (k := 3) rfl) sz25 ag25 rfl rfl (v := eL (AV.int .i64) d.Order) rfl ?_)
    refine Wl.guardT rfl rfl hb2 ?_
    refine wZ rg (o_len td25 rfl ?_)
    refine Wl.guardT rfl rfl hb2 ?_
    refine wZ rg (o_geq rfl rfl (wZ rg (o_pickF rfl hb2 (v := .bool (decide ((d.Order.length : Int) ≤ (max event place)))) rfl (nZ ?_))))
    exact ⟨((decide ((d.Order.length : Int) ≤ (max event place))), (g1, g2)), (canon (fc vr (fc vr (fc vr (fc vr (fc vr (fn)))))) (sc rfl (sc rfl (sn)))), h⟩
  replace h := h.1 hb2
  refine Wl.guardF rfl rfl hb2 rfl ?_
  refine Wl.guardF rfl rfl hb2 rfl ?_
  refine Wl.guardF rfl rfl hb2 rfl ?_
  refine Wl.guardF rfl rfl hb2 rfl ?_
  refine Wl.guardF rfl rfl hb2 rfl ?_
  refine Wl.guardF rfl rfl hb2 rfl ?_
  refine wZ rg (o_pickT rfl hb2 (v := .bool true) rfl (nZ ?_))
  exact ⟨(true, (g1, g2)), (canon (fc vr (fc vr (fc vr (fc vr (fc vr (fn)))))) (sc rfl (sc rfl (sn)))), h⟩
end Go.Proofs.Ytiamkdpljeemkaa
