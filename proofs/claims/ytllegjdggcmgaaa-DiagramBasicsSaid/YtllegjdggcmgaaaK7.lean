/- Walks of functions. Conditions: none. -/
import Derived.Test.YtllegjdggcmgaaaWa
import Derived.Test.YtllegjdggcmgaaaGgTy
import Derived.Test.YtllegjdggcmgaaaK1
import Derived.Test.YtllegjdggcmgaaaK6
/- Walks of functions. Conditions: none. -/
namespace Go.Proofs.Ytllegjdggcmgaaa
open Go.Gg
set_option maxRecDepth 100000
theorem diagram_Event_ctr {i : Int} {o : List Int} {Q : GDiagram → Option Int → Prop} {S : St} {R : AV → St → Prop} (h : diagram_Event_W i o Q) (hQ : ∀ r1 r2, Q r1 r2 → R (.tuple [eDiagram r1, eErr 83 r2]) S) :
    Ctr Try.prog 63 [AV.int .i64 i, eL (AV.int .i64) o] S R := by
  unfold diagram_Event_W at h
  refine enterT Try.func63 rfl Try.ntmps63 Try.results63 (by kernel_rfl) (fun rg hrg => ?_)
  refine qZ (rZ (wZ rg (o_alloc zav25 ok25 (kk := 3) rfl (fun g1 => (asZ .niface rfl (nZ (qZ (qZ (rZ (mvZ (eL (AV.int .i64) o) rfl (mvZ (eL (AV.int .i64) o) rfl (wZ rg (o_len td22 rfl (wZ rg (o_call (us := [eL (AV.int .i64) o, AV.int .i64 (o.length : Int)]) rfl (vl' vr (vl' vr (vn))) (order_Check_ctr h fun err h => (asZ (eErr 83 err) rfl (nZ (qZ (rZ (mvZ (eErr 83 err) rfl ?_)))))))))))))))))))))
  refine wZ rg (o_isnon td29 (E := 83) rfl rfl rfl (nZ ?_))
  refine Vc.cond' rfl (fun hb => ?_) (fun hb => ?_)
  · replace h := h.1 hb
    refine qZ (rZ (wZ rg (o_build td25 zav25 bok25 szs25 sz25 (ps := []) rfl rfl (v := .agg [.nil, .nil, .int .i64 0]) rfl (mvZ (eErr 83 err) rfl (wZ rg (o_storeB (atL (k := 4) rfl) sz25 (by decide) rfl (w := .agg [.nil, .nil, .int .i64 0]) rfl rfl rfl (v := .agg [.nil, .nil, .int .i64 0]) rfl setL (asZ (eErr 83 err) rfl (nZ ?_))))))))
    refine Vc.ret' ?_
    refine res_cellA (atL (k := 4) rfl) sz25 (by decide) ag25 rfl rfl (v := .agg [.nil, .nil, .int .i64 0]) rfl (res_tmp (v := eErr 83 err) rfl (res_nil ?_))
    show Gives _ (.tuple [.agg [.nil, .nil, .int .i64 0], eErr 83 err]) _
    exact gives_out hrg (VW.tupL (vl' (VW.aggL (vl' (VW.nilL) (vl' (VW.nilL) (vl' vr (vn))))) (vl' vr (vn)))) (hQ _ _ h)
  replace h := h.2 hb
  refine Vc.skip' ?_
  refine qZ ?_
  obtain ⟨J, h, hJ⟩ := h
  refine Vc.join' (σ := ((Bool) × (Nat))) (fun y => J y.1) (fun y => envOf [(0, .int .i64 i), (1, eL (AV.int .i64) o), (4, .ptr rg 4 y.2 0 0), (22, .bool y.1)]) (fun y => stL S rg [(4, .arr 3 [.agg [.nil, .nil, .int .i64 0]], y.2)]) (fun y h => ?_) ?_
  · obtain ⟨x, g2⟩ := y
    replace h := hJ x h
    show Vc _ _ _ _ (envOf [(0, .int .i64 i), (1, eL (AV.int .i64) o), (4, .ptr rg 4 g2 0 0), (22, .bool x)]) (stL S rg [(4, .arr 3 [.agg [.nil, .nil, .int .i64 0]], g2)])
    refine Vc.cond' rfl (fun hb1 => ?_) (fun hb1 => ?_)
    · replace h := h.1 hb1
      refine qZ (rZ (wZ rg (o_build td25 zav25 bok25 szs25 sz25 (ps := []) rfl rfl (v := .agg [.nil, .nil, .int .i64 0]) rfl (wZ rg (o_iface (by rw [td83]; trivial) (v := .int .i64 10) rfl (wZ rg (o_storeB (atL (k := 4) rfl) sz25 (by decide) rfl (w := .agg [.nil, .nil, .int .i64 0]) rfl rfl rfl (v := .agg [.nil, .nil, .int .i64 0]) rfl setL (asZ (.iface 83 (.int .i64 10)) rfl (nZ ?_)))))))))
      refine Vc.ret' ?_
      refine res_cellA (atL (k := 4) rfl) sz25 (by decide) ag25 rfl rfl (v := .agg [.nil, .nil, .int .i64 0]) rfl (res_tmp (v := .iface 83 (.int .i64 10)) rfl (res_nil ?_))
      show Gives _ (.tuple [.agg [.nil, .nil, .int .i64 0], .iface 83 (.int .i64 10)]) _
      exact gives_out hrg (VW.tupL (vl' (VW.aggL (vl' (VW.nilL) (vl' (VW.nilL) (vl' vr (vn))))) (vl' vr (vn)))) (hQ _ _ h)
    replace h := h.2 hb1
    refine Vc.skip' ?_
    refine qZ (rZ (mvZ (eL (AV.int .i64) o) rfl (wZ rg (o_call (us := [eL (AV.int .i64) o]) rfl (vl' vr (vn)) (slices_Clone___int_int_ctr h fun r h => (mvZ (.int .i64 i) rfl (wZ rg (o_build td134 zav134 bok134 szs134 sz134 (ps := [(0, .int .i64 i), (1, .int .i64 0), (2, .int .i64 1)]) rfl rfl (v := .agg [.int .i64 i, .int .i64 0, .int .i64 1]) rfl ?_))))))))
    refine wZ rg (o_bslice td23 ok134 zav134 (es := [.agg [.int .i64 i, .int .i64 0, .int .i64 1]]) rfl (kk := 3) rfl rfl rfl rfl rfl rfl (fun g3 => (wZ rg (o_build td25 zav25 bok25 szs25 sz25 (ps := [(0, eL (AV.int .i64) r), (1, .sl 3 rg 29 g3 0 ([(⟨i, 0, 1⟩ : GDNode)].length)), (2, .int .i64 2)]) rfl rfl (v := .agg [eL (AV.int .i64) r, .sl 3 rg 29 g3 0 ([(⟨i, 0, 1⟩ : GDNode)].length), .int .i64 2]) rfl ?_))))
    refine wZ rg (o_storeB (atL (k := 4) rfl) sz25 (by decide) rfl (w := .agg [eL (AV.int .i64) r, .sl 3 rg 29 g3 0 ([(⟨i, 0, 1⟩ : GDNode)].length), .int .i64 2]) rfl rfl rfl (v := .agg [eL (AV.int .i64) r, .sl 3 rg 29 g3 0 ([(⟨i, 0, 1⟩ : GDNode)].length), .int .i64 2]) rfl setL (asZ .niface rfl (nZ ?_)))
    refine Vc.ret' ?_
    refine res_cellA (atL (k := 4) rfl) sz25 (by decide) ag25 rfl rfl (v := .agg [eL (AV.int .i64) r, .sl 3 rg 29 g3 0 ([(⟨i, 0, 1⟩ : GDNode)].length), .int .i64 2]) rfl (res_tmp (v := .niface) rfl (res_nil ?_))
    show Gives _ (.tuple [.agg [eL (AV.int .i64) r, .sl 3 rg 29 g3 0 ([(⟨i, 0, 1⟩ : GDNode)].length), .int .i64 2], .niface]) _
    refine gives_freeze (k := 29) (xs := List.map eDNode [(⟨i, 0, 1⟩ : GDNode)]) rfl (v' := .tuple [.agg [eL (AV.int .i64) r, eL eDNode [(⟨i, 0, 1⟩ : GDNode)], .int .i64 2], .niface]) (VW.tupL (vl' (VW.aggL (vl' vr (vl' (frz_full rfl) (vl' vr (vn))))) (vl' vr (vn)))) ?_
    exact gives_out hrg (VW.tupL (vl' vr (vl' vr (vn)))) (hQ _ _ h)
  refine rZ ?_
  refine mvZ (.int .i64 i) rfl (wZ rg (o_lss rfl rfl (mvZ (.bool (decide (i < 0))) rfl ?_)))
  refine Wl.guard rfl rfl (fun hb2 => ?_) (fun hb2 => ?_)
  · replace h := h.2 hb2
    refine mvZ (.int .i64 i) rfl ?_
    refine Wl.guardT rfl rfl hb2 ?_
    refine mvZ (eL (AV.int .i64) o) rfl ?_
    refine Wl.guardT rfl rfl hb2 ?_
    refine wZ rg (o_len td22 rfl ?_)
    refine Wl.guardT rfl rfl hb2 ?_
    refine wZ rg (o_geq rfl rfl (wZ rg (o_pickF rfl hb2 (v := .bool (decide ((o.length : Int) ≤ i))) rfl (nZ ?_))))
    exact ⟨((decide ((o.length : Int) ≤ i)), g1), (canon (fc vr (fc vr (fc vr (fc vr (fn))))) (sc rfl (sn))), h⟩
  replace h := h.1 hb2
  refine Wl.guardF rfl rfl hb2 rfl ?_
  refine Wl.guardF rfl rfl hb2 rfl ?_
  refine Wl.guardF rfl rfl hb2 rfl ?_
  refine wZ rg (o_pickT rfl hb2 (v := .bool true) rfl (nZ ?_))
  exact ⟨(true, g1), (canon (fc vr (fc vr (fc vr (fc vr (fn))))) (sc rfl (sn))), h⟩
end Go.Proofs.Ytllegjdggcmgaaa
/- Walks of functions. Conditions: none. -/
namespace Go.Proofs.Ytllegjdggcmgaaa
open Go.Gg
set_option maxRecDepth 100000
theorem diagram_Constant_ctr {v : Bool} {o : List Int} {Q : GDiagram → Option Int → Prop} {S : St} {R : AV → St → Prop} (h : diagram_Constant_W v o Q) (hQ : ∀ r1 r2, Q r1 r2 → R (.tuple [eDiagram r1, eErr 83 r2]) S) :
    Ctr Try.prog 70 [AV.bool v, eL (AV.int .i64) o] S R := by
  unfold diagram_Constant_W at h
  refine enterT Try.func70 rfl Try.ntmps70 Try.results70 (by kernel_rfl) (fun rg hrg => ?_)
  refine qZ (rZ (wZ rg (o_alloc zav25 ok25 (kk := 3) rfl (fun g1 => (asZ .niface rfl (nZ (qZ (qZ (rZ (mvZ (eL (AV.int .i64) o) rfl (mvZ (eL (AV.int .i64) o) rfl (wZ rg (o_len td22 rfl (wZ rg (o_call (us := [eL (AV.int .i64) o, AV.int .i64 (o.length : Int)]) rfl (vl' vr (vl' vr (vn))) (order_Check_ctr h fun err h => (asZ (eErr 83 err) rfl (nZ (qZ (rZ (mvZ (eErr 83 err) rfl ?_)))))))))))))))))))))
  refine wZ rg (o_isnon td29 (E := 83) rfl rfl rfl (nZ ?_))
  refine Vc.cond' rfl (fun hb => ?_) (fun hb => ?_)
  · replace h := h.1 hb
    refine qZ (rZ (wZ rg (o_build td25 zav25 bok25 szs25 sz25 (ps := []) rfl rfl (v := .agg [.nil, .nil, .int .i64 0]) rfl (mvZ (eErr 83 err) rfl (wZ rg (o_storeB (atL (k := 4) rfl) sz25 (by decide) rfl (w := .agg [.nil, .nil, .int .i64 0]) rfl rfl rfl (v := .agg [.nil, .nil, .int .i64 0]) rfl setL (asZ (eErr 83 err) rfl (nZ ?_))))))))
    refine Vc.ret' ?_
    refine res_cellA (atL (k := 4) rfl) sz25 (by decide) ag25 rfl rfl (v := .agg [.nil, .nil, .int .i64 0]) rfl (res_tmp (v := eErr 83 err) rfl (res_nil ?_))
    show Gives _ (.tuple [.agg [.nil, .nil, .int .i64 0], eErr 83 err]) _
    exact gives_out hrg (VW.tupL (vl' (VW.aggL (vl' (VW.nilL) (vl' (VW.nilL) (vl' vr (vn))))) (vl' vr (vn)))) (hQ _ _ h)
  replace h := h.2 hb
  refine Vc.skip' ?_
  refine qZ (rZ (mvZ (eL (AV.int .i64) o) rfl (wZ rg (o_call (us := [eL (AV.int .i64) o]) rfl (vl' vr (vn)) (slices_Clone___int_int_ctr h fun r h => (wZ rg (o_build td25 zav25 bok25 szs25 sz25 (ps := [(0, eL (AV.int .i64) r)]) rfl rfl (v := .agg [eL (AV.int .i64) r, .nil, .int .i64 0]) rfl (wZ rg (o_alloc zav25 ok25 (kk := 3) rfl (fun g2 => ?_))))))))))
  refine wZ rg (o_storeB (atL (k := 7) rfl) sz25 (by decide) rfl (w := .agg [eL (AV.int .i64) r, .nil, .int .i64 0]) rfl rfl rfl (v := .agg [eL (AV.int .i64) r, .nil, .int .i64 0]) rfl setL (nZ ?_))
  obtain ⟨J, h, hJ⟩ := h
  refine Vc.join' (σ := ((GDiagram) × (Nat × Nat))) (fun y => J y.1) (fun y => envOf [(4, .ptr rg 4 y.2.1 0 0), (7, .ptr rg 7 y.2.2 0 0)]) (fun y => stL S rg [(4, .arr 3 [.agg [.nil, .nil, .int .i64 0]], y.2.1), (7, .arr 3 [eDiagram y.1], y.2.2)]) (fun y h => ?_) ?_
  · obtain ⟨x, ⟨g3, g4⟩⟩ := y
    replace h := hJ x h
    show Vc _ _ _ _ (envOf [(4, .ptr rg 4 g3 0 0), (7, .ptr rg 7 g4 0 0)]) (stL S rg [(4, .arr 3 [.agg [.nil, .nil, .int .i64 0]], g3), (7, .arr 3 [eDiagram x], g4)])
    refine qZ (rZ (wZ rg (o_loadBA (atL (k := 7) rfl) sz25 (by decide) ag25 rfl rfl (v := eDiagram x) rfl (wZ rg (o_storeB (atL (k := 4) rfl) sz25 (by decide) rfl (w := eDiagram x) rfl rfl rfl (v := eDiagram x) rfl setL (asZ .niface rfl (nZ ?_)))))))
    refine Vc.ret' ?_
    refine res_cellA (atL (k := 4) rfl) sz25 (by decide) ag25 rfl rfl (v := eDiagram x) rfl (res_tmp (v := .niface) rfl (res_nil ?_))
    show Gives _ (.tuple [eDiagram x, .niface]) _
    exact gives_out hrg (VW.tupL (vl' vr (vl' vr (vn)))) (hQ _ _ h)
  refine qZ (rZ (mvZ (.bool v) rfl (nZ ?_)))
  refine Vc.cond' rfl (fun hb1 => ?_) (fun hb1 => ?_)
  · replace h := h.1 hb1
    refine rZ ?_
    refine wZ rg (o_faP td25 rfl rfl (by rw [sz3]; decide) rfl (wZ rg (o_storeB (atL (k := 7) rfl) sz3 (by decide) rfl (w := .int .i64 1) rfl rfl rfl (v := .agg [eL (AV.int .i64) r, .nil, .int .i64 1]) rfl setL (nZ ?_))))
    exact ⟨((⟨r, [], 1⟩ : GDiagram), (g1, g2)), (EWk.trans (EWk.ow (k := 7) (o' := .arr 3 [eDiagram (⟨r, [], 1⟩ : GDiagram)]) rfl (OW.one (VWL.vwc (vl' vr (vl' (VW.nilL) (vl' vr (vn))))))) (canon (fc vr (fc vr (fn))) (sc rfl (sc rfl (sn))))), h⟩
  replace h := h.2 hb1
  refine Vc.skip' ?_
  exact ⟨((⟨r, [], 0⟩ : GDiagram), (g1, g2)), (EWk.trans (EWk.ow (k := 7) (o' := .arr 3 [eDiagram (⟨r, [], 0⟩ : GDiagram)]) rfl (OW.one (VWL.vwc (vl' vr (vl' (VW.nilL) (vl' vr (vn))))))) (canon (fc vr (fc vr (fn))) (sc rfl (sc rfl (sn))))), h⟩
end Go.Proofs.Ytllegjdggcmgaaa
/- Walks of functions. Conditions: none. -/
namespace Go.Proofs.Ytllegjdggcmgaaa
open Go.Gg
set_option maxRecDepth 100000
theorem ref15_Constant_ctr {v : Bool} {o : List Int} {Q : GDiagram → Prop} {S : St} {R : AV → St → Prop} (h : ref15_Constant_W v o Q) (hQ : ∀ r1, Q r1 → R (eDiagram r1) S) :
    Ctr Try.prog 72 [AV.bool v, eL (AV.int .i64) o] S R := by
  unfold ref15_Constant_W at h
  refine enterT Try.func72 rfl Try.ntmps72 Try.results72 (by kernel_rfl) (fun rg hrg => ?_)
  refine qZ (rZ (wZ rg (o_alloc zav25 ok25 (kk := 3) rfl (fun g1 => (nZ (qZ (rZ (wZ rg (o_build td25 zav25 bok25 szs25 sz25 (ps := []) rfl rfl (v := .agg [.nil, .nil, .int .i64 0]) rfl (wZ rg (o_alloc zav25 ok25 (kk := 3) rfl (fun g2 => (wZ rg (o_storeB (atL (k := 5) rfl) sz25 (by decide) rfl (w := .agg [.nil, .nil, .int .i64 0]) rfl rfl rfl (v := .agg [.nil, .nil, .int .i64 0]) rfl setL (nZ ?_)))))))))))))))
  refine qZ (rZ (wZ rg (o_faP td25 rfl rfl (by rw [sz22]; decide) rfl (wZ rg (o_loadB1 (atL (k := 5) rfl) sz22 ag22 rfl rfl (v := .nil) rfl (mvZ (eL (AV.int .i64) o) rfl (wZ rg (o_appN td22 bts3 ok3 zav3 (xs := o) (enc := AV.int .i64) (rfl) (kk := 1) rfl rfl (fun _ => rfl) (fun _ => rfl) h.1 rfl (fun g3 => ?_)))))))))
  replace h := h.2
  refine wZ rg (o_faP td25 rfl rfl (by rw [sz22]; decide) rfl (wZ rg (o_storeB (atL (k := 5) rfl) sz22 (by decide) rfl (w := .sl 1 rg 10 g3 0 o.length) rfl rfl rfl (v := .agg [.sl 1 rg 10 g3 0 o.length, .nil, .int .i64 0]) rfl setL (nZ (qZ (qZ (rZ (mvZ (.bool v) rfl (nZ ?_)))))))))
  refine Vc.cond' rfl (fun hb => ?_) (fun hb => ?_)
  · replace h := h.1 hb
    refine rZ ?_
    refine wZ rg (o_faP td25 rfl rfl (by rw [sz3]; decide) rfl (wZ rg (o_storeB (atL (k := 5) rfl) sz3 (by decide) rfl (w := .int .i64 1) rfl rfl rfl (v := .agg [.sl 1 rg 10 g3 0 o.length, .nil, .int .i64 1]) rfl setL (nZ (qZ (rZ (wZ rg (o_loadBA (atL (k := 5) rfl) sz25 (by decide) ag25 rfl rfl (v := .agg [.sl 1 rg 10 g3 0 o.length, .nil, .int .i64 1]) rfl ?_))))))))
    refine wZ rg (o_storeB (atL (k := 4) rfl) sz25 (by decide) rfl (w := .agg [.sl 1 rg 10 g3 0 o.length, .nil, .int .i64 1]) rfl rfl rfl (v := .agg [.sl 1 rg 10 g3 0 o.length, .nil, .int .i64 1]) rfl setL (nZ ?_))
    refine Vc.ret' ?_
    refine res_cellA (atL (k := 4) rfl) sz25 (by decide) ag25 rfl rfl (v := .agg [.sl 1 rg 10 g3 0 o.length, .nil, .int .i64 1]) rfl (res_nil ?_)
    show Gives _ (.agg [.sl 1 rg 10 g3 0 o.length, .nil, .int .i64 1]) _
    refine gives_freeze (k := 10) (xs := List.map (AV.int .i64) o) rfl (v' := .agg [eL (AV.int .i64) o, .nil, .int .i64 1]) (VW.aggL (vl' (frz_full rfl) (vl' vr (vl' vr (vn))))) ?_
    exact gives_out hrg (VW.aggL (vl' vr (vl' (VW.nilL) (vl' vr (vn))))) (hQ _ h)
  replace h := h.2 hb
  refine Vc.skip' ?_
  refine qZ (rZ (wZ rg (o_loadBA (atL (k := 5) rfl) sz25 (by decide) ag25 rfl rfl (v := .agg [.sl 1 rg 10 g3 0 o.length, .nil, .int .i64 0]) rfl (wZ rg (o_storeB (atL (k := 4) rfl) sz25 (by decide) rfl (w := .agg [.sl 1 rg 10 g3 0 o.length, .nil, .int .i64 0]) rfl rfl rfl (v := .agg [.sl 1 rg 10 g3 0 o.length, .nil, .int .i64 0]) rfl setL (nZ ?_))))))
  refine Vc.ret' ?_
  refine res_cellA (atL (k := 4) rfl) sz25 (by decide) ag25 rfl rfl (v := .agg [.sl 1 rg 10 g3 0 o.length, .nil, .int .i64 0]) rfl (res_nil ?_)
  show Gives _ (.agg [.sl 1 rg 10 g3 0 o.length, .nil, .int .i64 0]) _
  refine gives_freeze (k := 10) (xs := List.map (AV.int .i64) o) rfl (v' := .agg [eL (AV.int .i64) o, .nil, .int .i64 0]) (VW.aggL (vl' (frz_full rfl) (vl' vr (vl' vr (vn))))) ?_
  exact gives_out hrg (VW.aggL (vl' vr (vl' (VW.nilL) (vl' vr (vn))))) (hQ _ h)
end Go.Proofs.Ytllegjdggcmgaaa
/- Walks of functions. Conditions: none. -/
namespace Go.Proofs.Ytllegjdggcmgaaa
open Go.Gg
set_option maxRecDepth 100000
theorem ref15_Event_ctr {i : Int} {o : List Int} {Q : GDiagram → Prop} {S : St} {R : AV → St → Prop} (h : ref15_Event_W i o Q) (hQ : ∀ r1, Q r1 → R (eDiagram r1) S) :
    Ctr Try.prog 73 [AV.int .i64 i, eL (AV.int .i64) o] S R := by
  unfold ref15_Event_W at h
  refine enterT Try.func73 rfl Try.ntmps73 Try.results73 (by kernel_rfl) (fun rg hrg => ?_)
  refine qZ (rZ (wZ rg (o_alloc zav25 ok25 (kk := 3) rfl (fun g1 => (nZ (qZ (rZ (mvZ (eL (AV.int .i64) o) rfl (wZ rg (o_call (us := [AV.bool false, eL (AV.int .i64) o]) rfl (vl' vr (vl' vr (vn))) (ref15_Constant_ctr h fun r h => (wZ rg (o_alloc zav25 ok25 (kk := 3) rfl (fun g2 => (wZ rg (o_storeB (atL (k := 5) rfl) sz25 (by decide) rfl (w := eDiagram r) rfl rfl rfl (v := eDiagram r) rfl setL ?_))))))))))))))))
  refine nZ (qZ (rZ (mvZ (.int .i64 i) rfl (wZ rg (o_build td134 zav134 bok134 szs134 sz134 (ps := [(0, .int .i64 i), (1, .int .i64 0), (2, .int .i64 1)]) rfl rfl (v := .agg [.int .i64 i, .int .i64 0, .int .i64 1]) rfl (wZ rg (o_bslice td23 ok134 zav134 (es := [.agg [.int .i64 i, .int .i64 0, .int .i64 1]]) rfl (kk := 3) rfl rfl rfl rfl rfl rfl (fun g3 => ?_))))))))
  refine wZ rg (o_faP td25 rfl rfl (by rw [sz23]; decide) rfl (wZ rg (o_storeB (atL (k := 5) rfl) sz23 (by decide) rfl (w := .sl 3 rg 10 g3 0 ([(⟨i, 0, 1⟩ : GDNode)].length)) rfl rfl rfl (v := .agg [eL (AV.int .i64) r.Order, .sl 3 rg 10 g3 0 ([(⟨i, 0, 1⟩ : GDNode)].length), .int .i64 r.Root]) rfl setL (nZ (qZ (rZ (wZ rg (o_faP td25 rfl rfl (by rw [sz3]; decide) rfl ?_))))))))
  refine wZ rg (o_storeB (atL (k := 5) rfl) sz3 (by decide) rfl (w := .int .i64 2) rfl rfl rfl (v := .agg [eL (AV.int .i64) r.Order, .sl 3 rg 10 g3 0 ([(⟨i, 0, 1⟩ : GDNode)].length), .int .i64 2]) rfl setL (nZ (qZ (rZ (wZ rg (o_loadBA (atL (k := 5) rfl) sz25 (by decide) ag25 rfl rfl (v := .agg [eL (AV.int .i64) r.Order, .sl 3 rg 10 g3 0 ([(⟨i, 0, 1⟩ : GDNode)].length), .int .i64 2]) rfl ?_))))))
  refine wZ rg (o_storeB (atL (k := 4) rfl) sz25 (by decide) rfl (w := .agg [eL (AV.int .i64) r.Order, .sl 3 rg 10 g3 0 ([(⟨i, 0, 1⟩ : GDNode)].length), .int .i64 2]) rfl rfl rfl (v := .agg [eL (AV.int .i64) r.Order, .sl 3 rg 10 g3 0 ([(⟨i, 0, 1⟩ : GDNode)].length), .int .i64 2]) rfl setL (nZ ?_))
  refine Vc.ret' ?_
  refine res_cellA (atL (k := 4) rfl) sz25 (by decide) ag25 rfl rfl (v := .agg [eL (AV.int .i64) r.Order, .sl 3 rg 10 g3 0 ([(⟨i, 0, 1⟩ : GDNode)].length), .int .i64 2]) rfl (res_nil ?_)
  show Gives _ (.agg [eL (AV.int .i64) r.Order, .sl 3 rg 10 g3 0 ([(⟨i, 0, 1⟩ : GDNode)].length), .int .i64 2]) _
  refine gives_freeze (k := 10) (xs := List.map eDNode [(⟨i, 0, 1⟩ : GDNode)]) rfl (v' := .agg [eL (AV.int .i64) r.Order, eL eDNode [(⟨i, 0, 1⟩ : GDNode)], .int .i64 2]) (VW.aggL (vl' vr (vl' (frz_full rfl) (vl' vr (vn))))) ?_
  exact gives_out hrg (VW.refl _) (hQ _ h)
end Go.Proofs.Ytllegjdggcmgaaa
