/- Walks of functions. Conditions: none. -/
import Derived.Test.YtiamkdpljeemkaaWa
import Derived.Test.YtiamkdpljeemkaaGgTy
import Derived.Test.YtiamkdpljeemkaaK2
import Derived.Test.YtiamkdpljeemkaaK1
/- Walks of functions. Conditions: none. -/
namespace Go.Proofs.Ytiamkdpljeemkaa
open Go.Gg
set_option maxRecDepth 100000
theorem sifting_Reorder_ctr {d : GDiagram} {o : List Int} {Q : GDiagram → Option Int → Prop} {S : St} {R : AV → St → Prop} (h : sifting_Reorder_W d o Q) (hQ : ∀ r1 r2, Q r1 r2 → R (.tuple [eDiagram r1, eErr 73 r2]) S) :
    Ctr Try.prog 42 [eDiagram d, eL (AV.int .i64) o] S R := by
  unfold sifting_Reorder_W at h
  refine enterT Try.func42 rfl Try.ntmps42 Try.results42 (by kernel_rfl) (fun rg hrg => ?_)
  refine qZ (rZ (wZ rg (o_box (v := eDiagram d) rfl rfl (kk := 3) rfl (by decide) (fun g1 => (wZ rg (o_alloc zav30 ok30 (kk := 3) rfl (fun g2 => (asZ .niface rfl (nZ (qZ (qZ (rZ (wZ rg (o_loadBA (atL (k := 2) rfl) sz30 (by decide) ag30 rfl rfl (v := eDiagram d) rfl (wZ rg (o_call (us := [eDiagram d]) rfl (vl' vr (vn)) (diagram_Check_ctr h fun err h => (asZ (eErr 73 err) rfl (nZ (qZ (rZ ?_)))))))))))))))))))))
  refine mvZ (eErr 73 err) rfl (wZ rg (o_isnon td32 (E := 73) rfl rfl rfl (nZ ?_)))
  refine Vc.cond' rfl (fun hb => ?_) (fun hb => ?_)
  · replace h := h.1 hb
    refine qZ (rZ (wZ rg (o_build td30 zav30 bok30 szs30 sz30 (ps := []) rfl rfl (v := .agg [.nil, .nil, .int .i64 0]) rfl (mvZ (eErr 73 err) rfl (wZ rg (o_storeB (atL (k := 4) rfl) sz30 (by decide) rfl (w := .agg [.nil, .nil, .int .i64 0]) rfl rfl rfl (v := .agg [.nil, .nil, .int .i64 0]) rfl setL (asZ (eErr 73 err) rfl (nZ ?_))))))))
    refine Vc.ret' ?_
    refine res_cellA (atL (k := 4) rfl) sz30 (by decide) ag30 rfl rfl (v := .agg [.nil, .nil, .int .i64 0]) rfl (res_tmp (v := eErr 73 err) rfl (res_nil ?_))
    show Gives _ (.tuple [.agg [.nil, .nil, .int .i64 0], eErr 73 err]) _
    exact gives_out hrg (VW.tupL (vl' (VW.aggL (vl' (VW.nilL) (vl' (VW.nilL) (vl' vr (vn))))) (vl' vr (vn)))) (hQ _ _ h)
  replace h := h.2 hb
  refine Vc.skip' ?_
  refine qZ (qZ (rZ (mvZ (eL (AV.int .i64) o) rfl (mvZ (eL (AV.int .i64) o) rfl (wZ rg (o_len td25 rfl (wZ rg (o_call (us := [eL (AV.int .i64) o, AV.int .i64 (o.length : Int)]) rfl (vl' vr (vl' vr (vn))) (order_Check_ctr h fun err1 h => (asZ (eErr 73 err1) rfl (nZ (qZ (rZ (mvZ (eErr 73 err1) rfl (wZ rg (o_isnon td32 (E := 73) rfl rfl rfl (nZ ?_)))))))))))))))))
  refine Vc.cond' rfl (fun hb1 => ?_) (fun hb1 => ?_)
  · replace h := h.1 hb1
    refine qZ (rZ (wZ rg (o_build td30 zav30 bok30 szs30 sz30 (ps := []) rfl rfl (v := .agg [.nil, .nil, .int .i64 0]) rfl (mvZ (eErr 73 err1) rfl (wZ rg (o_storeB (atL (k := 4) rfl) sz30 (by decide) rfl (w := .agg [.nil, .nil, .int .i64 0]) rfl rfl rfl (v := .agg [.nil, .nil, .int .i64 0]) rfl setL (asZ (eErr 73 err1) rfl (nZ ?_))))))))
    refine Vc.ret' ?_
    refine res_cellA (atL (k := 4) rfl) sz30 (by decide) ag30 rfl rfl (v := .agg [.nil, .nil, .int .i64 0]) rfl (res_tmp (v := eErr 73 err1) rfl (res_nil ?_))
    show Gives _ (.tuple [.agg [.nil, .nil, .int .i64 0], eErr 73 err1]) _
    exact gives_out hrg (VW.tupL (vl' (VW.aggL (vl' (VW.nilL) (vl' (VW.nilL) (vl' vr (vn))))) (vl' vr (vn)))) (hQ _ _ h)
  replace h := h.2 hb1
  refine Vc.skip' ?_
  refine qZ (qZ (rZ (mvZ (eL (AV.int .i64) o) rfl (wZ rg (o_len td25 rfl (wZ rg (o_faP td30 rfl rfl (by rw [sz25]; decide) rfl (wZ rg (o_loadB1 (atL (k := 2) rfl) sz25 ag25 rfl rfl (v := eL (AV.int .i64) d.Order) rfl (wZ rg (o_len td25 rfl (wZ rg (o_neq rfl rfl (nZ ?_))))))))))))))
  refine Vc.cond' rfl (fun hb2 => ?_) (fun hb2 => ?_)
  · replace h := h.1 hb2
    refine qZ (rZ (wZ rg (o_build td30 zav30 bok30 szs30 sz30 (ps := []) rfl rfl (v := .agg [.nil, .nil, .int .i64 0]) rfl (wZ rg (o_iface (by rw [td73]; trivial) (v := .int .i64 11) rfl (wZ rg (o_storeB (atL (k := 4) rfl) sz30 (by decide) rfl (w := .agg [.nil, .nil, .int .i64 0]) rfl rfl rfl (v := .agg [.nil, .nil, .int .i64 0]) rfl setL (asZ (.iface 73 (.int .i64 11)) rfl (nZ ?_)))))))))
    refine Vc.ret' ?_
    refine res_cellA (atL (k := 4) rfl) sz30 (by decide) ag30 rfl rfl (v := .agg [.nil, .nil, .int .i64 0]) rfl (res_tmp (v := .iface 73 (.int .i64 11)) rfl (res_nil ?_))
    show Gives _ (.tuple [.agg [.nil, .nil, .int .i64 0], .iface 73 (.int .i64 11)]) _
    exact gives_out hrg (VW.tupL (vl' (VW.aggL (vl' (VW.nilL) (vl' (VW.nilL) (vl' vr (vn))))) (vl' vr (vn)))) (hQ _ _ h)
  replace h := h.2 hb2
  refine Vc.skip' ?_
  refine qZ (rZ (wZ rg (o_loadBA (atL (k := 2) rfl) sz30 (by decide) ag30 rfl rfl (v := eDiagram d) rfl (mvZ (eL (AV.int .i64) o) rfl (wZ rg (o_call (us := [eDiagram d, eL (AV.int .i64) o]) rfl (vl' vr (vl' vr (vn))) (sifting_reorder_ctr h fun r r1 h => (wZ rg (o_extract (v := eDiagram r) rfl rfl rfl (wZ rg (o_extract (v := eErr 73 r1) rfl rfl rfl ?_)))))))))))
  refine wZ rg (o_storeB (atL (k := 4) rfl) sz30 (by decide) rfl (w := eDiagram r) rfl rfl rfl (v := eDiagram r) rfl setL (asZ (eErr 73 r1) rfl (nZ ?_)))
  refine Vc.ret' ?_
  refine res_cellA (atL (k := 4) rfl) sz30 (by decide) ag30 rfl rfl (v := eDiagram r) rfl (res_tmp (v := eErr 73 r1) rfl (res_nil ?_))
  show Gives _ (.tuple [eDiagram r, eErr 73 r1]) _
  exact gives_out hrg (VW.tupL (vl' vr (vl' vr (vn)))) (hQ _ _ h)
end Go.Proofs.Ytiamkdpljeemkaa
