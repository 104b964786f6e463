/- Walks of functions. Conditions: none. -/
import Derived.Test.YtonbnfgknijpoaaWPproduct
import Derived.Test.YtonbnfgknijpoaaGgTy
import Derived.Test.YtonbnfgknijpoaaKB
import Derived.Test.YtonbnfgknijpoaaKF
import Derived.Test.YtonbnfgknijpoaaKPproduct
namespace Go.Proofs.Ytonbnfgknijpoaa
open Go.Gg
set_option maxRecDepth 100000
theorem product_Down_ctr {dist : List GRat} {f : GFormula} {Q : GRat → Option Int → Prop} {S : St} {R : AV → St → Prop} (h : product_Down_W dist f Q) (hQ : ∀ r1 r2, Q r1 r2 → R (.tuple [eRat r1, eErr 107 r2]) S) :
    Ctr Try.prog 49 [eL eRat dist, eFormula f] S R := by
  unfold product_Down_W at h
  refine enterT Try.func49 rfl Try.ntmps49 Try.results49 (by kernel_rfl) (fun rg hrg => ?_)
  refine qZ (rZ ?_)
  refine wZ rg (o_box (v := eFormula f) rfl rfl (kk := 3) rfl (by decide) (fun g1 => ?_))
  refine wZ rg (o_alloc zav27 ok27 (kk := 3) rfl (fun g2 => ?_))
  refine asZ .niface rfl ?_
  refine nZ (qZ (rZ ?_))
  refine mvZ (eL eRat dist) rfl ?_
  refine wZ rg (o_call (us := [eL eRat dist]) rfl (vl' vr (vn)) (product_components_ctr h fun r r1 h => ?_))
  refine mvZ (.tuple [.int .i64 r, eErr 107 r1]) rfl ?_
  refine wZ rg (o_extract (v := .int .i64 r) rfl rfl rfl ?_)
  refine wZ rg (o_extract (v := eErr 107 r1) rfl rfl rfl ?_)
  refine asZ (.int .i64 r) rfl ?_
  refine asZ (eErr 107 r1) rfl ?_
  refine nZ (qZ (qZ (rZ ?_)))
  refine mvZ (eErr 107 r1) rfl ?_
  refine wZ rg (o_isnon td31 (E := 107) rfl rfl rfl ?_)
  refine nZ ?_
  refine Vc.cond' rfl (fun hb => ?_) (fun hb => ?_)
  · replace h := h.1 hb
    refine qZ (rZ ?_)
    refine wZ rg (o_build td27 zav27 bok27 szs27 sz27 (ps := []) rfl rfl (v := .agg [.bool false, .nil, .nil]) rfl ?_)
    refine mvZ (eErr 107 r1) rfl ?_
    refine wZ rg (o_storeB (atL (k := 4) rfl) sz27 (by decide) rfl (w := .agg [.bool false, .nil, .nil]) rfl rfl rfl (v := .agg [.bool false, .nil, .nil]) rfl setL ?_)
    refine asZ (eErr 107 r1) rfl ?_
    refine nZ ?_
    refine Vc.ret' ?_
    refine res_cellA (atL (k := 4) rfl) sz27 (by decide) ag27 rfl rfl (v := .agg [.bool false, .nil, .nil]) rfl ?_
    refine res_tmp (v := eErr 107 r1) rfl ?_
    refine res_nil ?_
    show Gives _ (.tuple [.agg [.bool false, .nil, .nil], eErr 107 r1]) _
    exact gives_out hrg (VW.tupL (vl' (VW.aggL (vl' vr (vl' (VW.nilL) (vl' (VW.nilL) (vn))))) (vl' vr (vn)))) (hQ _ _ h)
  replace h := h.2 hb
  refine Vc.skip' ?_
  refine qZ (qZ (rZ ?_))
  refine wZ rg (o_loadBA (atL (k := 3) rfl) sz70 (by decide) ag70 rfl rfl (v := eFormula f) rfl ?_)
  refine wZ rg (o_call (us := [eFormula f]) rfl (vl' vr (vn)) (formula_Check_ctr h fun e h => ?_))
  refine asZ (eErr 107 e) rfl ?_
  refine nZ (qZ (rZ ?_))
  refine mvZ (eErr 107 e) rfl ?_
  refine wZ rg (o_isnon td31 (E := 107) rfl rfl rfl ?_)
  refine nZ ?_
  refine Vc.cond' rfl (fun hb1 => ?_) (fun hb1 => ?_)
  · replace h := h.1 hb1
    refine qZ (rZ ?_)
    refine wZ rg (o_build td27 zav27 bok27 szs27 sz27 (ps := []) rfl rfl (v := .agg [.bool false, .nil, .nil]) rfl ?_)
    refine mvZ (eErr 107 e) rfl ?_
    refine wZ rg (o_storeB (atL (k := 4) rfl) sz27 (by decide) rfl (w := .agg [.bool false, .nil, .nil]) rfl rfl rfl (v := .agg [.bool false, .nil, .nil]) rfl setL ?_)
    refine asZ (eErr 107 e) rfl ?_
    refine nZ ?_
    refine Vc.ret' ?_
    refine res_cellA (atL (k := 4) rfl) sz27 (by decide) ag27 rfl rfl (v := .agg [.bool false, .nil, .nil]) rfl ?_
    refine res_tmp (v := eErr 107 e) rfl ?_
    refine res_nil ?_
    show Gives _ (.tuple [.agg [.bool false, .nil, .nil], eErr 107 e]) _
    exact gives_out hrg (VW.tupL (vl' (VW.aggL (vl' vr (vl' (VW.nilL) (vl' (VW.nilL) (vn))))) (vl' vr (vn)))) (hQ _ _ h)
  replace h := h.2 hb1
  refine Vc.skip' ?_
  refine qZ (qZ (rZ ?_))
  refine wZ rg (o_faP td70 rfl rfl (by rw [sz3]; decide) rfl ?_)
  refine wZ rg (o_loadB1 (atL (k := 3) rfl) sz3 ag3 rfl rfl (v := .int .i64 f.Vars) rfl ?_)
  refine mvZ (.int .i64 r) rfl ?_
  refine wZ rg (o_neq rfl rfl ?_)
  refine nZ ?_
  refine Vc.cond' rfl (fun hb2 => ?_) (fun hb2 => ?_)
  · replace h := h.1 hb2
    refine qZ (rZ ?_)
    refine wZ rg (o_build td27 zav27 bok27 szs27 sz27 (ps := []) rfl rfl (v := .agg [.bool false, .nil, .nil]) rfl ?_)
    refine wZ rg (o_iface (by rw [td107]; trivial) (v := .int .i64 11) rfl ?_)
    refine wZ rg (o_storeB (atL (k := 4) rfl) sz27 (by decide) rfl (w := .agg [.bool false, .nil, .nil]) rfl rfl rfl (v := .agg [.bool false, .nil, .nil]) rfl setL ?_)
    refine asZ (.iface 107 (.int .i64 11)) rfl ?_
    refine nZ ?_
    refine Vc.ret' ?_
    refine res_cellA (atL (k := 4) rfl) sz27 (by decide) ag27 rfl rfl (v := .agg [.bool false, .nil, .nil]) rfl ?_
    refine res_tmp (v := .iface 107 (.int .i64 11)) rfl ?_
    refine res_nil ?_
    show Gives _ (.tuple [.agg [.bool false, .nil, .nil], .iface 107 (.int .i64 11)]) _
    exact gives_out hrg (VW.tupL (vl' (VW.aggL (vl' vr (vl' (VW.nilL) (vl' (VW.nilL) (vn))))) (vl' vr (vn)))) (hQ _ _ h)
  replace h := h.2 hb2
  refine Vc.skip' ?_
  refine qZ (rZ ?_)
  refine wZ rg (o_build td27 zav27 bok27 szs27 sz27 (ps := []) rfl rfl (v := .agg [.bool false, .nil, .nil]) rfl ?_)
  refine wZ rg (o_alloc zav27 ok27 (kk := 3) rfl (fun g3 => ?_))
  refine wZ rg (o_storeB (atL (k := 9) rfl) sz27 (by decide) rfl (w := .agg [.bool false, .nil, .nil]) rfl rfl rfl (v := .agg [.bool false, .nil, .nil]) rfl setL ?_)
  refine nZ (qZ (qZ (rZ ?_)))
  refine mvZ (eL eRat dist) rfl ?_
  refine wZ rg (o_len td22 rfl ?_)
  refine mvZ (.int .i64 0) rfl ?_
  refine nZ ?_
  refine Vc.blk ?_
  obtain ⟨I, μ, h0, hI⟩ := h
  refine Vc.loop' (σ := (Int × GRat)) (fun y => I y) (fun y => μ y) (fun y => envOf [(3, .ptr rg 3 g1 0 0), (4, .ptr rg 4 g2 0 0), (9, .ptr rg 9 g3 0 0), (36, eL eRat dist), (37, .int .i64 (dist.length : Int)), (38, .int .i64 y.1)]) (fun y => stL S rg [(3, .arr 3 [eFormula f], g1), (4, .arr 3 [.agg [.bool false, .nil, .nil]], g2), (9, .arr 3 [eRat y.2], g3)]) (0, (⟨false, [], []⟩ : GRat)) (EWk.trans (EWk.ow (k := 9) (o' := .arr 3 [eRat (⟨false, [], []⟩ : GRat)]) rfl (OW.one (VWL.vwc (vl' vr (vl' (VW.nilL) (vl' (VW.nilL) (vn))))))) (canon (fc vr (fc vr (fc vr (fc vr (fc vr (fc vr (fn))))))) (sc rfl (sc rfl (sc rfl (sn)))))) h0 (fun y h => ?_)
  obtain ⟨x, x1⟩ := y
  replace h := hI (x, x1) h
  show Vc _ _ _ _ (envOf [(3, .ptr rg 3 g1 0 0), (4, .ptr rg 4 g2 0 0), (9, .ptr rg 9 g3 0 0), (36, eL eRat dist), (37, .int .i64 (dist.length : Int)), (38, .int .i64 x)]) (stL S rg [(3, .arr 3 [eFormula f], g1), (4, .arr 3 [.agg [.bool false, .nil, .nil]], g2), (9, .arr 3 [eRat x1], g3)])
  refine qZ (rZ ?_)
  refine wZ rg (o_lss rfl rfl ?_)
  refine nZ (qZ ?_)
  refine Vc.cond' rfl (fun hb3 => ?_) (fun hb3 => ?_)
  · replace h := h.1 hb3
    refine Vc.skip' ?_
    refine qZ ?_
    refine Vc.blk ?_
    refine qZ (rZ ?_)
    refine mvZ (.int .i64 x) rfl ?_
    refine wZ rg (o_idxL td22 sz27 (by decide) (fun _ => rfl) rfl rfl h.1 ?_)
    replace h := h.2
    refine wZ rg (o_loadIA sz27 (by decide) ag27 rfl rfl (v := eRat (at' dist x)) rfl ?_)
    refine wZ rg (o_alloc zav27 ok27 (kk := 3) rfl (fun g4 => ?_))
    refine asZ (.int .i64 x) rfl ?_
    refine wZ rg (o_storeB (atL (k := 11) rfl) sz27 (by decide) rfl (w := eRat (at' dist x)) rfl rfl rfl (v := eRat (at' dist x)) rfl setL ?_)
    refine nZ (qZ (rZ ?_))
    refine wZ rg (o_loadBA (atL (k := 3) rfl) sz70 (by decide) ag70 rfl rfl (v := eFormula f) rfl ?_)
    refine mvZ (.int .i64 x) rfl ?_
    refine wZ rg (o_call (us := [eFormula f, AV.int .i64 x]) rfl (vl' vr (vl' vr (vn))) (formula_Value_ctr h fun r2 r3 h => ?_))
    refine mvZ (.tuple [.bool r2, eErr 107 r3]) rfl ?_
    refine wZ rg (o_extract (v := .bool r2) rfl rfl rfl ?_)
    refine wZ rg (o_extract (v := eErr 107 r3) rfl rfl rfl ?_)
    refine asZ (.bool r2) rfl ?_
    refine asZ (eErr 107 r3) rfl ?_
    refine nZ (qZ (qZ (rZ ?_)))
    refine mvZ (eErr 107 r3) rfl ?_
    refine wZ rg (o_isnon td31 (E := 107) rfl rfl rfl ?_)
    refine nZ ?_
    refine Vc.cond' rfl (fun hb4 => ?_) (fun hb4 => ?_)
    · replace h := h.1 hb4
      refine qZ (rZ ?_)
      refine wZ rg (o_build td27 zav27 bok27 szs27 sz27 (ps := []) rfl rfl (v := .agg [.bool false, .nil, .nil]) rfl ?_)
      refine mvZ (eErr 107 r3) rfl ?_
      refine wZ rg (o_storeB (atL (k := 4) rfl) sz27 (by decide) rfl (w := .agg [.bool false, .nil, .nil]) rfl rfl rfl (v := .agg [.bool false, .nil, .nil]) rfl setL ?_)
      refine asZ (eErr 107 r3) rfl ?_
      refine nZ ?_
      refine Vc.ret' ?_
      refine res_cellA (atL (k := 4) rfl) sz27 (by decide) ag27 rfl rfl (v := .agg [.bool false, .nil, .nil]) rfl ?_
      refine res_tmp (v := eErr 107 r3) rfl ?_
      refine res_nil ?_
      show Gives _ (.tuple [.agg [.bool false, .nil, .nil], eErr 107 r3]) _
      exact gives_out hrg (VW.tupL (vl' (VW.aggL (vl' vr (vl' (VW.nilL) (vl' (VW.nilL) (vn))))) (vl' vr (vn)))) (hQ _ _ h)
    replace h := h.2 hb4
    refine Vc.skip' ?_
    refine qZ (rZ ?_)
    refine mvZ (.bool r2) rfl ?_
    refine nZ ?_
    refine Vc.cond' rfl (fun hb5 => ?_) (fun hb5 => ?_)
    · replace h := h.1 hb5
      refine rZ ?_
      refine wZ rg (o_loadBA (atL (k := 9) rfl) sz27 (by decide) ag27 rfl rfl (v := eRat x1) rfl ?_)
      refine wZ rg (o_loadBA (atL (k := 11) rfl) sz27 (by decide) ag27 rfl rfl (v := eRat (at' dist x)) rfl ?_)
      refine wZ rg (o_call (us := [eRat x1, eRat (at' dist x)]) rfl (vl' vr (vl' vr (vn))) (rational_Add_ctr h fun r4 h => ?_))
      refine wZ rg (o_storeB (atL (k := 9) rfl) sz27 (by decide) rfl (w := eRat r4) rfl rfl rfl (v := eRat r4) rfl setL ?_)
      refine nZ (rZ ?_)
      refine wZ rg (o_addG rfl rfl h.1 ?_)
      replace h := h.2
      refine mvZ (.int .i64 (x + 1)) rfl ?_
      refine nZ ?_
      exact ⟨((x + 1), r4), (canon (fc vr (fc vr (fc vr (fc vr (fc vr (fc vr (fn))))))) (sc rfl (sc rfl (sc rfl (sn))))), h⟩
    replace h := h.2 hb5
    refine Vc.skip' ?_
    refine rZ ?_
    refine wZ rg (o_addG rfl rfl h.1 ?_)
    replace h := h.2
    refine mvZ (.int .i64 (x + 1)) rfl ?_
    refine nZ ?_
    exact ⟨((x + 1), x1), (canon (fc vr (fc vr (fc vr (fc vr (fc vr (fc vr (fn))))))) (sc rfl (sc rfl (sc rfl (sn))))), h⟩
  replace h := h.2 hb3
  refine Vc.exit' (exB_self ?_)
  refine qZ (rZ ?_)
  refine wZ rg (o_loadBA (atL (k := 9) rfl) sz27 (by decide) ag27 rfl rfl (v := eRat x1) rfl ?_)
  refine wZ rg (o_storeB (atL (k := 4) rfl) sz27 (by decide) rfl (w := eRat x1) rfl rfl rfl (v := eRat x1) rfl setL ?_)
  refine asZ .niface rfl ?_
  refine nZ ?_
  refine Vc.ret' ?_
  refine res_cellA (atL (k := 4) rfl) sz27 (by decide) ag27 rfl rfl (v := eRat x1) rfl ?_
  refine res_tmp (v := .niface) rfl ?_
  refine res_nil ?_
  show Gives _ (.tuple [eRat x1, .niface]) _
  exact gives_out hrg (VW.tupL (vl' vr (vl' vr (vn)))) (hQ _ _ h)
end Go.Proofs.Ytonbnfgknijpoaa
