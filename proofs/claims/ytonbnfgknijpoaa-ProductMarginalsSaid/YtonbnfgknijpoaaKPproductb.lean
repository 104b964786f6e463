/- Walks of functions. Conditions: none. -/
import Derived.Test.YtonbnfgknijpoaaWPproduct
import Derived.Test.YtonbnfgknijpoaaGgTy
import Derived.Test.YtonbnfgknijpoaaKB
namespace Go.Proofs.Ytonbnfgknijpoaa
open Go.Gg
set_option maxRecDepth 100000
theorem product_components_ctr {dist : List GRat} {Q : Int → Option Int → Prop} {S : St} {R : AV → St → Prop} (h : product_components_W dist Q) (hQ : ∀ r1 r2, Q r1 r2 → R (.tuple [AV.int .i64 r1, eErr 107 r2]) S) :
    Ctr Try.prog 110 [eL eRat dist] S R := by
  unfold product_components_W at h
  refine enterT Try.func110 rfl Try.ntmps110 Try.results110 (by kernel_rfl) (fun rg hrg => ?_)
  refine qZ (rZ ?_)
  refine asZ (.int .i64 0) rfl ?_
  refine asZ .niface rfl ?_
  refine nZ (qZ (rZ ?_))
  refine asZ (.int .i64 1) rfl ?_
  refine nZ ?_
  obtain ⟨J, h, hJ⟩ := h
  refine Vc.join' (σ := (Int)) (fun y => J y) (fun y => envOf [(0, eL eRat dist), (4, .int .i64 y)]) (fun y => stL S rg []) (fun n h => ?_) ?_
  · replace h := hJ n h
    show Vc _ _ _ _ (envOf [(0, eL eRat dist), (4, .int .i64 n)]) (stL S rg [])
    refine qZ (qZ (rZ ?_))
    refine mvZ (.int .i64 n) rfl ?_
    refine wZ rg (o_gtr rfl rfl ?_)
    refine nZ ?_
    refine Vc.cond' rfl (fun hb => ?_) (fun hb => ?_)
    · replace h := h.1 hb
      refine qZ (rZ ?_)
      refine wZ rg (o_iface (by rw [td107]; trivial) (v := .int .i64 11) rfl ?_)
      refine asZ (.int .i64 0) rfl ?_
      refine asZ (.iface 107 (.int .i64 11)) rfl ?_
      refine nZ ?_
      refine Vc.ret' ?_
      refine res_tmp (v := .int .i64 0) rfl ?_
      refine res_tmp (v := .iface 107 (.int .i64 11)) rfl ?_
      refine res_nil ?_
      show Gives _ (.tuple [.int .i64 0, .iface 107 (.int .i64 11)]) _
      exact gives_out hrg (VW.tupL (vl' vr (vl' vr (vn)))) (hQ _ _ h)
    replace h := h.2 hb
    refine Vc.skip' ?_
    refine qZ (qZ (rZ ?_))
    refine mvZ (eL eRat dist) rfl ?_
    refine wZ rg (o_len td22 rfl ?_)
    refine mvZ (.int .i64 0) rfl ?_
    refine nZ ?_
    refine Vc.blk ?_
    obtain ⟨I, μ, h0, hI⟩ := h
    refine Vc.loop' (σ := (Int)) (fun y => I y) (fun y => μ y) (fun y => envOf [(4, .int .i64 n), (21, eL eRat dist), (22, .int .i64 (dist.length : Int)), (23, .int .i64 y)]) (fun y => stL S rg []) 0 (canon (fc vr (fc vr (fc vr (fc vr (fn))))) (sn)) h0 (fun x h => ?_)
    replace h := hI x h
    show Vc _ _ _ _ (envOf [(4, .int .i64 n), (21, eL eRat dist), (22, .int .i64 (dist.length : Int)), (23, .int .i64 x)]) (stL S rg [])
    refine qZ (rZ ?_)
    refine wZ rg (o_lss rfl rfl ?_)
    refine nZ (qZ ?_)
    refine Vc.cond' rfl (fun hb1 => ?_) (fun hb1 => ?_)
    · replace h := h.1 hb1
      refine Vc.skip' ?_
      refine qZ ?_
      refine Vc.blk ?_
      refine qZ (rZ ?_)
      refine wZ rg (o_idxL td22 sz27 (by decide) (fun _ => rfl) rfl rfl h.1 ?_)
      replace h := h.2
      refine wZ rg (o_loadIA sz27 (by decide) ag27 rfl rfl (v := eRat (at' dist x)) rfl ?_)
      refine wZ rg (o_alloc zav27 ok27 (kk := 3) rfl (fun g1 => ?_))
      refine wZ rg (o_storeB (atL (k := 6) rfl) sz27 (by decide) rfl (w := eRat (at' dist x)) rfl rfl rfl (v := eRat (at' dist x)) rfl setL ?_)
      refine nZ (qZ (rZ ?_))
      refine wZ rg (o_loadBA (atL (k := 6) rfl) sz27 (by decide) ag27 rfl rfl (v := eRat (at' dist x)) rfl ?_)
      refine wZ rg (o_call (us := [eRat (at' dist x)]) rfl (vl' vr (vn)) (rational_Valid_ctr h fun r h => ?_))
      refine wZ rg (o_not rfl ?_)
      refine nZ ?_
      refine Vc.cond' rfl (fun hb2 => ?_) (fun hb2 => ?_)
      · replace h := h.1 hb2
        refine qZ (rZ ?_)
        refine wZ rg (o_iface (by rw [td107]; trivial) (v := .int .i64 3) rfl ?_)
        refine asZ (.int .i64 0) rfl ?_
        refine asZ (.iface 107 (.int .i64 3)) rfl ?_
        refine nZ ?_
        refine Vc.ret' ?_
        refine res_tmp (v := .int .i64 0) rfl ?_
        refine res_tmp (v := .iface 107 (.int .i64 3)) rfl ?_
        refine res_nil ?_
        show Gives _ (.tuple [.int .i64 0, .iface 107 (.int .i64 3)]) _
        exact gives_out hrg (VW.tupL (vl' vr (vl' vr (vn)))) (hQ _ _ h)
      replace h := h.2 hb2
      refine Vc.skip' ?_
      refine rZ ?_
      refine wZ rg (o_addG rfl rfl h.1 ?_)
      replace h := h.2
      refine mvZ (.int .i64 (x + 1)) rfl ?_
      refine nZ ?_
      exact ⟨(x + 1), (canon (fc vr (fc vr (fc vr (fc vr (fn))))) (sn)), h⟩
    replace h := h.2 hb1
    refine Vc.exit' (exB_self ?_)
    refine qZ (rZ ?_)
    refine mvZ (.int .i64 n) rfl ?_
    refine asZ (.int .i64 n) rfl ?_
    refine asZ .niface rfl ?_
    refine nZ ?_
    refine Vc.ret' ?_
    refine res_tmp (v := .int .i64 n) rfl ?_
    refine res_tmp (v := .niface) rfl ?_
    refine res_nil ?_
    show Gives _ (.tuple [.int .i64 n, .niface]) _
    exact gives_out hrg (VW.tupL (vl' vr (vl' vr (vn)))) (hQ _ _ h)
  refine Vc.blk ?_
  obtain ⟨I, μ, h0, hI⟩ := h
  refine Vc.loop' (σ := (Int)) (fun y => I y) (fun y => μ y) (fun y => envOf [(0, eL eRat dist), (4, .int .i64 y)]) (fun y => stL S rg []) 1 (canon (fc vr (fc vr (fn))) (sn)) h0 (fun n1 h => ?_)
  replace h := hI n1 h
  show Vc _ _ _ _ (envOf [(0, eL eRat dist), (4, .int .i64 n1)]) (stL S rg [])
  refine qZ (qZ (rZ ?_))
  refine mvZ (.int .i64 n1) rfl ?_
  refine wZ rg (o_leq rfl rfl ?_)
  refine mvZ (.bool (decide (n1 ≤ 8))) rfl ?_
  refine Wl.guard rfl rfl (fun hb3 => ?_) (fun hb3 => ?_)
  · replace h := h.1 hb3
    refine mvZ (.int .i64 n1) rfl ?_
    refine Wl.guardT rfl rfl hb3 ?_
    refine wZ rg (o_shlG rfl rfl h.1 ?_)
    replace h := h.2
    refine Wl.guardT rfl rfl hb3 ?_
    refine mvZ (eL eRat dist) rfl ?_
    refine Wl.guardT rfl rfl hb3 ?_
    refine wZ rg (o_len td22 rfl ?_)
    refine Wl.guardT rfl rfl hb3 ?_
    refine wZ rg (o_neq rfl rfl ?_)
    refine wZ rg (o_pickT rfl hb3 (v := .bool ((1 * 2 ^ (Int.toNat n1)) != (dist.length : Int))) rfl ?_)
    refine nZ ?_
    refine Vc.cond' rfl (fun hb4 => ?_) (fun hb4 => ?_)
    · replace h := h.1 hb4
      refine Vc.skip' ?_
      refine Vc.blk ?_
      refine rZ ?_
      refine mvZ (.int .i64 n1) rfl ?_
      refine wZ rg (o_addG rfl rfl h.1 ?_)
      replace h := h.2
      refine asZ (.int .i64 (n1 + 1)) rfl ?_
      refine nZ ?_
      exact ⟨(n1 + 1), (canon (fc vr (fc vr (fn))) (sn)), h⟩
    replace h := h.2 hb4
    refine Vc.exit' (exB_self ?_)
    exact ⟨n1, (canon (fc vr (fc vr (fn))) (sn)), h⟩
  replace h := h.2 hb3
  refine Wl.guardF rfl rfl hb3 rfl ?_
  refine Wl.guardF rfl rfl hb3 rfl ?_
  refine Wl.guardF rfl rfl hb3 rfl ?_
  refine Wl.guardF rfl rfl hb3 rfl ?_
  refine wZ rg (o_pickF rfl hb3 (v := .bool false) rfl ?_)
  refine nZ ?_
  refine Vc.cond' rfl (fun hb => Bool.noConfusion hb) (fun _ => ?_)
  refine Vc.exit' (exB_self ?_)
  exact ⟨n1, (canon (fc vr (fc vr (fn))) (sn)), h⟩
theorem product_Marginal_ctr {dist : List GRat} {i : Int} {Q : GRat → Option Int → Prop} {S : St} {R : AV → St → Prop} (h : product_Marginal_W dist i Q) (hQ : ∀ r1 r2, Q r1 r2 → R (.tuple [eRat r1, eErr 107 r2]) S) :
    Ctr Try.prog 44 [eL eRat dist, AV.int .i64 i] S R := by
  unfold product_Marginal_W at h
  refine enterT Try.func44 rfl Try.ntmps44 Try.results44 (by kernel_rfl) (fun rg hrg => ?_)
  refine qZ (rZ ?_)
  refine wZ rg (o_alloc zav27 ok27 (kk := 3) rfl (fun g1 => ?_))
  refine asZ .niface rfl ?_
  refine nZ (qZ (rZ ?_))
  refine mvZ (eL eRat dist) rfl ?_
  refine wZ rg (o_call (us := [eL eRat dist]) rfl (vl' vr (vn)) (product_components_ctr h fun r r1 h => ?_))
  refine mvZ (.tuple [.int .i64 r, eErr 107 r1]) rfl ?_
  refine wZ rg (o_extract (v := .int .i64 r) rfl rfl rfl ?_)
  refine wZ rg (o_extract (v := eErr 107 r1) rfl rfl rfl ?_)
  refine asZ (.int .i64 r) rfl ?_
  refine asZ (eErr 107 r1) rfl ?_
  refine nZ (qZ (qZ (rZ ?_)))
  refine mvZ (eErr 107 r1) rfl ?_
  refine wZ rg (o_isnon td31 (E := 107) rfl rfl rfl ?_)
  refine nZ ?_
  refine Vc.cond' rfl (fun hb => ?_) (fun hb => ?_)
  · replace h := h.1 hb
    refine qZ (rZ ?_)
    refine wZ rg (o_build td27 zav27 bok27 szs27 sz27 (ps := []) rfl rfl (v := .agg [.bool false, .nil, .nil]) rfl ?_)
    refine mvZ (eErr 107 r1) rfl ?_
    refine wZ rg (o_storeB (atL (k := 4) rfl) sz27 (by decide) rfl (w := .agg [.bool false, .nil, .nil]) rfl rfl rfl (v := .agg [.bool false, .nil, .nil]) rfl setL ?_)
    refine asZ (eErr 107 r1) rfl ?_
    refine nZ ?_
    refine Vc.ret' ?_
    refine res_cellA (atL (k := 4) rfl) sz27 (by decide) ag27 rfl rfl (v := .agg [.bool false, .nil, .nil]) rfl ?_
    refine res_tmp (v := eErr 107 r1) rfl ?_
    refine res_nil ?_
    show Gives _ (.tuple [.agg [.bool false, .nil, .nil], eErr 107 r1]) _
    exact gives_out hrg (VW.tupL (vl' (VW.aggL (vl' vr (vl' (VW.nilL) (vl' (VW.nilL) (vn))))) (vl' vr (vn)))) (hQ _ _ h)
  replace h := h.2 hb
  refine Vc.skip' ?_
  refine qZ ?_
  obtain ⟨J, h, hJ⟩ := h
  refine Vc.join' (σ := ((Bool) × (Nat))) (fun y => J y.1) (fun y => envOf [(0, eL eRat dist), (1, .int .i64 i), (4, .ptr rg 4 y.2 0 0), (26, .bool y.1)]) (fun y => stL S rg [(4, .arr 3 [.agg [.bool false, .nil, .nil]], y.2)]) (fun y h => ?_) ?_
  · obtain ⟨x, g2⟩ := y
    replace h := hJ x h
    show Vc _ _ _ _ (envOf [(0, eL eRat dist), (1, .int .i64 i), (4, .ptr rg 4 g2 0 0), (26, .bool x)]) (stL S rg [(4, .arr 3 [.agg [.bool false, .nil, .nil]], g2)])
    refine Vc.cond' rfl (fun hb1 => ?_) (fun hb1 => ?_)
    · replace h := h.1 hb1
      refine qZ (rZ ?_)
      refine wZ rg (o_build td27 zav27 bok27 szs27 sz27 (ps := []) rfl rfl (v := .agg [.bool false, .nil, .nil]) rfl ?_)
      refine wZ rg (o_iface (by rw [td107]; trivial) (v := .int .i64 10) rfl ?_)
      refine wZ rg (o_storeB (atL (k := 4) rfl) sz27 (by decide) rfl (w := .agg [.bool false, .nil, .nil]) rfl rfl rfl (v := .agg [.bool false, .nil, .nil]) rfl setL ?_)
      refine asZ (.iface 107 (.int .i64 10)) rfl ?_
      refine nZ ?_
      refine Vc.ret' ?_
      refine res_cellA (atL (k := 4) rfl) sz27 (by decide) ag27 rfl rfl (v := .agg [.bool false, .nil, .nil]) rfl ?_
      refine res_tmp (v := .iface 107 (.int .i64 10)) rfl ?_
      refine res_nil ?_
      show Gives _ (.tuple [.agg [.bool false, .nil, .nil], .iface 107 (.int .i64 10)]) _
      exact gives_out hrg (VW.tupL (vl' (VW.aggL (vl' vr (vl' (VW.nilL) (vl' (VW.nilL) (vn))))) (vl' vr (vn)))) (hQ _ _ h)
    replace h := h.2 hb1
    refine Vc.skip' ?_
    refine qZ (rZ ?_)
    refine wZ rg (o_build td27 zav27 bok27 szs27 sz27 (ps := []) rfl rfl (v := .agg [.bool false, .nil, .nil]) rfl ?_)
    refine wZ rg (o_alloc zav27 ok27 (kk := 3) rfl (fun g3 => ?_))
    refine wZ rg (o_storeB (atL (k := 8) rfl) sz27 (by decide) rfl (w := .agg [.bool false, .nil, .nil]) rfl rfl rfl (v := .agg [.bool false, .nil, .nil]) rfl setL ?_)
    refine nZ (qZ (qZ (rZ ?_)))
    refine mvZ (eL eRat dist) rfl ?_
    refine wZ rg (o_len td22 rfl ?_)
    refine mvZ (.int .i64 0) rfl ?_
    refine nZ ?_
    refine Vc.blk ?_
    obtain ⟨I, μ, h0, hI⟩ := h
    refine Vc.loop' (σ := (Int × GRat)) (fun y => I y) (fun y => μ y) (fun y => envOf [(1, .int .i64 i), (4, .ptr rg 4 g2 0 0), (8, .ptr rg 8 g3 0 0), (30, eL eRat dist), (31, .int .i64 (dist.length : Int)), (32, .int .i64 y.1)]) (fun y => stL S rg [(4, .arr 3 [.agg [.bool false, .nil, .nil]], g2), (8, .arr 3 [eRat y.2], g3)]) (0, (⟨false, [], []⟩ : GRat)) (EWk.trans (EWk.ow (k := 8) (o' := .arr 3 [eRat (⟨false, [], []⟩ : GRat)]) rfl (OW.one (VWL.vwc (vl' vr (vl' (VW.nilL) (vl' (VW.nilL) (vn))))))) (canon (fc vr (fc vr (fc vr (fc vr (fc vr (fc vr (fn))))))) (sc rfl (sc rfl (sn))))) h0 (fun y h => ?_)
    obtain ⟨x1, x2⟩ := y
    replace h := hI (x1, x2) h
    show Vc _ _ _ _ (envOf [(1, .int .i64 i), (4, .ptr rg 4 g2 0 0), (8, .ptr rg 8 g3 0 0), (30, eL eRat dist), (31, .int .i64 (dist.length : Int)), (32, .int .i64 x1)]) (stL S rg [(4, .arr 3 [.agg [.bool false, .nil, .nil]], g2), (8, .arr 3 [eRat x2], g3)])
    refine qZ (rZ ?_)
    refine wZ rg (o_lss rfl rfl ?_)
    refine nZ (qZ ?_)
    refine Vc.cond' rfl (fun hb2 => ?_) (fun hb2 => ?_)
    · replace h := h.1 hb2
      refine Vc.skip' ?_
      refine qZ ?_
      refine Vc.blk ?_
      refine qZ (rZ ?_)
      refine mvZ (.int .i64 x1) rfl ?_
      refine wZ rg (o_idxL td22 sz27 (by decide) (fun _ => rfl) rfl rfl h.1 ?_)
      replace h := h.2
      refine wZ rg (o_loadIA sz27 (by decide) ag27 rfl rfl (v := eRat (at' dist x1)) rfl ?_)
      refine wZ rg (o_alloc zav27 ok27 (kk := 3) rfl (fun g4 => ?_))
      refine asZ (.int .i64 x1) rfl ?_
      refine wZ rg (o_storeB (atL (k := 10) rfl) sz27 (by decide) rfl (w := eRat (at' dist x1)) rfl rfl rfl (v := eRat (at' dist x1)) rfl setL ?_)
      refine nZ (qZ (rZ ?_))
      refine mvZ (.int .i64 x1) rfl ?_
      refine mvZ (.int .i64 i) rfl ?_
      refine wZ rg (o_shr rfl rfl h.1 ?_)
      replace h := h.2
      refine wZ rg (o_and rfl rfl ?_)
      refine wZ rg (o_eql rfl rfl ?_)
      refine nZ ?_
      refine Vc.cond' rfl (fun hb3 => ?_) (fun hb3 => ?_)
      · replace h := h.1 hb3
        refine rZ ?_
        refine wZ rg (o_loadBA (atL (k := 8) rfl) sz27 (by decide) ag27 rfl rfl (v := eRat x2) rfl ?_)
        refine wZ rg (o_loadBA (atL (k := 10) rfl) sz27 (by decide) ag27 rfl rfl (v := eRat (at' dist x1)) rfl ?_)
        refine wZ rg (o_call (us := [eRat x2, eRat (at' dist x1)]) rfl (vl' vr (vl' vr (vn))) (rational_Add_ctr h fun r2 h => ?_))
        refine wZ rg (o_storeB (atL (k := 8) rfl) sz27 (by decide) rfl (w := eRat r2) rfl rfl rfl (v := eRat r2) rfl setL ?_)
        refine nZ (rZ ?_)
        refine wZ rg (o_addG rfl rfl h.1 ?_)
        replace h := h.2
        refine mvZ (.int .i64 (x1 + 1)) rfl ?_
        refine nZ ?_
        exact ⟨((x1 + 1), r2), (canon (fc vr (fc vr (fc vr (fc vr (fc vr (fc vr (fn))))))) (sc rfl (sc rfl (sn)))), h⟩
      replace h := h.2 hb3
      refine Vc.skip' ?_
      refine rZ ?_
      refine wZ rg (o_addG rfl rfl h.1 ?_)
      replace h := h.2
      refine mvZ (.int .i64 (x1 + 1)) rfl ?_
      refine nZ ?_
      exact ⟨((x1 + 1), x2), (canon (fc vr (fc vr (fc vr (fc vr (fc vr (fc vr (fn))))))) (sc rfl (sc rfl (sn)))), h⟩
    replace h := h.2 hb2
    refine Vc.exit' (exB_self ?_)
    refine qZ (rZ ?_)
    refine wZ rg (o_loadBA (atL (k := 8) rfl) sz27 (by decide) ag27 rfl rfl (v := eRat x2) rfl ?_)
    refine wZ rg (o_storeB (atL (k := 4) rfl) sz27 (by decide) rfl (w := eRat x2) rfl rfl rfl (v := eRat x2) rfl setL ?_)
    refine asZ .niface rfl ?_
    refine nZ ?_
    refine Vc.ret' ?_
    refine res_cellA (atL (k := 4) rfl) sz27 (by decide) ag27 rfl rfl (v := eRat x2) rfl ?_
    refine res_tmp (v := .niface) rfl ?_
    refine res_nil ?_
    show Gives _ (.tuple [eRat x2, .niface]) _
    exact gives_out hrg (VW.tupL (vl' vr (vl' vr (vn)))) (hQ _ _ h)
  refine rZ ?_
  refine mvZ (.int .i64 i) rfl ?_
  refine wZ rg (o_lss rfl rfl ?_)
  refine mvZ (.bool (decide (i < 0))) rfl ?_
  refine Wl.guard rfl rfl (fun hb4 => ?_) (fun hb4 => ?_)
  · replace h := h.2 hb4
    refine mvZ (.int .i64 i) rfl ?_
    refine Wl.guardT rfl rfl hb4 ?_
    refine mvZ (.int .i64 r) rfl ?_
    refine Wl.guardT rfl rfl hb4 ?_
    refine wZ rg (o_geq rfl rfl ?_)
    refine wZ rg (o_pickF rfl hb4 (v := .bool (decide (r ≤ i))) rfl ?_)
    refine nZ ?_
    exact ⟨((decide (r ≤ i)), g1), (canon (fc vr (fc vr (fc vr (fc vr (fn))))) (sc rfl (sn))), h⟩
  replace h := h.1 hb4
  refine Wl.guardF rfl rfl hb4 rfl ?_
  refine Wl.guardF rfl rfl hb4 rfl ?_
  refine wZ rg (o_pickT rfl hb4 (v := .bool true) rfl ?_)
  refine nZ ?_
  exact ⟨(true, g1), (canon (fc vr (fc vr (fc vr (fc vr (fn))))) (sc rfl (sn))), h⟩
end Go.Proofs.Ytonbnfgknijpoaa
