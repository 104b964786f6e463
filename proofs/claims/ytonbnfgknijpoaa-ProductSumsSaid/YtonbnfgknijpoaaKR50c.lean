/- Walks of functions. Conditions: none. -/
import Derived.Test.YtonbnfgknijpoaaWR50
import Derived.Test.YtonbnfgknijpoaaGgTy
import Derived.Test.YtonbnfgknijpoaaKBd
import Derived.Test.YtonbnfgknijpoaaKFb
import Derived.Test.YtonbnfgknijpoaaKFc
namespace Go.Proofs.Ytonbnfgknijpoaa
open Go.Gg
set_option maxRecDepth 100000
theorem ref50_Size_ctr {dist : List GRat} {Q : Int → Int → Prop} {S : St} {R : AV → St → Prop} (h : ref50_Size_W dist Q) (hQ : ∀ r1 r2, Q r1 r2 → R (.tuple [AV.int .i64 r1, AV.int .i64 r2]) S) :
    Ctr Try.prog 117 [eL eRat dist] S R := by
  unfold ref50_Size_W at h
  refine enterT Try.func117 rfl Try.ntmps117 Try.results117 (by kernel_rfl) (fun rg hrg => ?_)
  refine qZ (rZ ?_)
  refine asZ (.int .i64 0) rfl ?_
  refine asZ (.int .i64 0) rfl ?_
  refine nZ (qZ (qZ (rZ ?_)))
  refine asZ (.int .i64 1) rfl ?_
  refine nZ ?_
  refine Vc.blk ?_
  obtain ⟨I, μ, h0, hI⟩ := h
  refine Vc.loop' (σ := (Int)) (fun y => I y) (fun y => μ y) (fun y => envOf [(0, eL eRat dist), (4, .int .i64 y)]) (fun y => stL S rg []) 1 (canon (fc vr (fc vr (fn))) (sn)) h0 (fun n h => ?_)
  replace h := hI n h
  show Vc _ _ _ _ (envOf [(0, eL eRat dist), (4, .int .i64 n)]) (stL S rg [])
  refine qZ (qZ (rZ ?_))
  refine mvZ (.int .i64 n) rfl ?_
  refine wZ rg (o_leq rfl rfl ?_)
  refine nZ ?_
  refine Vc.cond' rfl (fun hb => ?_) (fun hb => ?_)
  · replace h := h.1 hb
    refine Vc.skip' ?_
    refine qZ ?_
    refine Vc.blk ?_
    refine qZ (qZ (rZ ?_))
    refine mvZ (eL eRat dist) rfl ?_
    refine wZ rg (o_len td22 rfl ?_)
    refine mvZ (.int .i64 n) rfl ?_
    refine wZ rg (o_shlG rfl rfl h.1 ?_)
    replace h := h.2
    refine wZ rg (o_neq rfl rfl ?_)
    refine nZ ?_
    refine Vc.cond' rfl (fun hb1 => ?_) (fun hb1 => ?_)
    · replace h := h.1 hb1
      refine Vc.exit' (exB_self ?_)
      refine rZ ?_
      refine mvZ (.int .i64 n) rfl ?_
      refine wZ rg (o_addG rfl rfl h.1 ?_)
      replace h := h.2
      refine asZ (.int .i64 (n + 1)) rfl ?_
      refine nZ ?_
      exact ⟨(n + 1), (canon (fc vr (fc vr (fn))) (sn)), h⟩
    replace h := h.2 hb1
    refine Vc.skip' ?_
    refine qZ (qZ (rZ ?_))
    refine mvZ (eL eRat dist) rfl ?_
    refine wZ rg (o_len td22 rfl ?_)
    refine mvZ (.int .i64 0) rfl ?_
    refine nZ ?_
    refine Vc.blk ?_
    obtain ⟨I, μ, h0, hI⟩ := h
    refine Vc.loop' (σ := (Int)) (fun y => I y) (fun y => μ y) (fun y => envOf [(4, .int .i64 n), (16, eL eRat dist), (17, .int .i64 (dist.length : Int)), (18, .int .i64 y)]) (fun y => stL S rg []) 0 (canon (fc vr (fc vr (fc vr (fc vr (fn))))) (sn)) h0 (fun x h => ?_)
    replace h := hI x h
    show Vc _ _ _ _ (envOf [(4, .int .i64 n), (16, eL eRat dist), (17, .int .i64 (dist.length : Int)), (18, .int .i64 x)]) (stL S rg [])
    refine qZ (rZ ?_)
    refine wZ rg (o_lss rfl rfl ?_)
    refine nZ (qZ ?_)
    refine Vc.cond' rfl (fun hb2 => ?_) (fun hb2 => ?_)
    · replace h := h.1 hb2
      refine Vc.skip' ?_
      refine qZ ?_
      refine Vc.blk ?_
      refine qZ (rZ ?_)
      refine wZ rg (o_idxL td22 sz27 (by decide) (fun _ => rfl) rfl rfl h.1 ?_)
      replace h := h.2
      refine wZ rg (o_loadIA sz27 (by decide) ag27 rfl rfl (v := eRat (at' dist x)) rfl ?_)
      refine wZ rg (o_alloc zav27 ok27 (kk := 3) rfl (fun g1 => ?_))
      refine wZ rg (o_storeB (atL (k := 6) rfl) sz27 (by decide) rfl (w := eRat (at' dist x)) rfl rfl rfl (v := eRat (at' dist x)) rfl setL ?_)
      refine nZ (qZ (rZ ?_))
      refine wZ rg (o_loadBA (atL (k := 6) rfl) sz27 (by decide) ag27 rfl rfl (v := eRat (at' dist x)) rfl ?_)
      refine wZ rg (o_call (us := [eRat (at' dist x)]) rfl (vl' vr (vn)) (ref02_Valid_ctr h fun r h => ?_))
      refine wZ rg (o_not rfl ?_)
      refine nZ ?_
      refine Vc.cond' rfl (fun hb3 => ?_) (fun hb3 => ?_)
      · replace h := h.1 hb3
        refine qZ (rZ ?_)
        refine asZ (.int .i64 0) rfl ?_
        refine asZ (.int .i64 3) rfl ?_
        refine nZ ?_
        refine Vc.ret' ?_
        refine res_tmp (v := .int .i64 0) rfl ?_
        refine res_tmp (v := .int .i64 3) rfl ?_
        refine res_nil ?_
        show Gives _ (.tuple [.int .i64 0, .int .i64 3]) _
        exact gives_out hrg (VW.tupL (vl' vr (vl' vr (vn)))) (hQ _ _ h)
      replace h := h.2 hb3
      refine Vc.skip' ?_
      refine rZ ?_
      refine wZ rg (o_addG rfl rfl h.1 ?_)
      replace h := h.2
      refine mvZ (.int .i64 (x + 1)) rfl ?_
      refine nZ ?_
      exact ⟨(x + 1), (canon (fc vr (fc vr (fc vr (fc vr (fn))))) (sn)), h⟩
    replace h := h.2 hb2
    refine Vc.exit' (exB_self ?_)
    refine qZ (rZ ?_)
    refine mvZ (.int .i64 n) rfl ?_
    refine asZ (.int .i64 n) rfl ?_
    refine asZ (.int .i64 0) rfl ?_
    refine nZ ?_
    refine Vc.ret' ?_
    refine res_tmp (v := .int .i64 n) rfl ?_
    refine res_tmp (v := .int .i64 0) rfl ?_
    refine res_nil ?_
    show Gives _ (.tuple [.int .i64 n, .int .i64 0]) _
    exact gives_out hrg (VW.tupL (vl' vr (vl' vr (vn)))) (hQ _ _ h)
  replace h := h.2 hb
  refine Vc.exit' (exB_self ?_)
  refine qZ (rZ ?_)
  refine asZ (.int .i64 0) rfl ?_
  refine asZ (.int .i64 11) rfl ?_
  refine nZ ?_
  refine Vc.ret' ?_
  refine res_tmp (v := .int .i64 0) rfl ?_
  refine res_tmp (v := .int .i64 11) rfl ?_
  refine res_nil ?_
  show Gives _ (.tuple [.int .i64 0, .int .i64 11]) _
  exact gives_out hrg (VW.tupL (vl' vr (vl' vr (vn)))) (hQ _ _ h)
theorem ref50_Marginal_ctr {dist : List GRat} {i : Int} {Q : GRat → Int → Prop} {S : St} {R : AV → St → Prop} (h : ref50_Marginal_W dist i Q) (hQ : ∀ r1 r2, Q r1 r2 → R (.tuple [eRat r1, AV.int .i64 r2]) S) :
    Ctr Try.prog 51 [eL eRat dist, AV.int .i64 i] S R := by
  unfold ref50_Marginal_W at h
  refine enterT Try.func51 rfl Try.ntmps51 Try.results51 (by kernel_rfl) (fun rg hrg => ?_)
  refine qZ (rZ ?_)
  refine wZ rg (o_alloc zav27 ok27 (kk := 3) rfl (fun g1 => ?_))
  refine asZ (.int .i64 0) rfl ?_
  refine nZ (qZ (rZ ?_))
  refine mvZ (eL eRat dist) rfl ?_
  refine wZ rg (o_call (us := [eL eRat dist]) rfl (vl' vr (vn)) (ref50_Size_ctr h fun r r1 h => ?_))
  refine mvZ (.tuple [.int .i64 r, .int .i64 r1]) rfl ?_
  refine wZ rg (o_extract (v := .int .i64 r) rfl rfl rfl ?_)
  refine wZ rg (o_extract (v := .int .i64 r1) rfl rfl rfl ?_)
  refine asZ (.int .i64 r) rfl ?_
  refine asZ (.int .i64 r1) rfl ?_
  refine nZ (qZ (qZ (rZ ?_)))
  refine mvZ (.int .i64 r1) rfl ?_
  refine wZ rg (o_neq rfl rfl ?_)
  refine nZ ?_
  refine Vc.cond' rfl (fun hb => ?_) (fun hb => ?_)
  · replace h := h.1 hb
    refine qZ (rZ ?_)
    refine wZ rg (o_build td27 zav27 bok27 szs27 sz27 (ps := []) rfl rfl (v := .agg [.bool false, .nil, .nil]) rfl ?_)
    refine mvZ (.int .i64 r1) rfl ?_
    refine wZ rg (o_storeB (atL (k := 4) rfl) sz27 (by decide) rfl (w := .agg [.bool false, .nil, .nil]) rfl rfl rfl (v := .agg [.bool false, .nil, .nil]) rfl setL ?_)
    refine asZ (.int .i64 r1) rfl ?_
    refine nZ ?_
    refine Vc.ret' ?_
    refine res_cellA (atL (k := 4) rfl) sz27 (by decide) ag27 rfl rfl (v := .agg [.bool false, .nil, .nil]) rfl ?_
    refine res_tmp (v := .int .i64 r1) rfl ?_
    refine res_nil ?_
    show Gives _ (.tuple [.agg [.bool false, .nil, .nil], .int .i64 r1]) _
    exact gives_out hrg (VW.tupL (vl' (VW.aggL (vl' vr (vl' (VW.nilL) (vl' (VW.nilL) (vn))))) (vl' vr (vn)))) (hQ _ _ h)
  replace h := h.2 hb
  refine Vc.skip' ?_
  refine qZ ?_
  obtain ⟨J, h, hJ⟩ := h
  refine Vc.join' (σ := ((Bool) × (Nat))) (fun y => J y.1) (fun y => envOf [(0, eL eRat dist), (1, .int .i64 i), (4, .ptr rg 4 y.2 0 0), (26, .bool y.1)]) (fun y => stL S rg [(4, .arr 3 [.agg [.bool false, .nil, .nil]], y.2)]) (fun y h => ?_) ?_
  · obtain ⟨x, g2⟩ := y
    replace h := hJ x h
    show Vc _ _ _ _ (envOf [(0, eL eRat dist), (1, .int .i64 i), (4, .ptr rg 4 g2 0 0), (26, .bool x)]) (stL S rg [(4, .arr 3 [.agg [.bool false, .nil, .nil]], g2)])
    refine Vc.cond' rfl (fun hb1 => ?_) (fun hb1 => ?_)
    · replace h := h.1 hb1
      refine qZ (rZ ?_)
      refine wZ rg (o_build td27 zav27 bok27 szs27 sz27 (ps := []) rfl rfl (v := .agg [.bool false, .nil, .nil]) rfl ?_)
      refine wZ rg (o_storeB (atL (k := 4) rfl) sz27 (by decide) rfl (w := .agg [.bool false, .nil, .nil]) rfl rfl rfl (v := .agg [.bool false, .nil, .nil]) rfl setL ?_)
      refine asZ (.int .i64 10) rfl ?_
      refine nZ ?_
      refine Vc.ret' ?_
      refine res_cellA (atL (k := 4) rfl) sz27 (by decide) ag27 rfl rfl (v := .agg [.bool false, .nil, .nil]) rfl ?_
      refine res_tmp (v := .int .i64 10) rfl ?_
      refine res_nil ?_
      show Gives _ (.tuple [.agg [.bool false, .nil, .nil], .int .i64 10]) _
      exact gives_out hrg (VW.tupL (vl' (VW.aggL (vl' vr (vl' (VW.nilL) (vl' (VW.nilL) (vn))))) (vl' vr (vn)))) (hQ _ _ h)
    replace h := h.2 hb1
    refine Vc.skip' ?_
    refine qZ (rZ ?_)
    refine wZ rg (o_build td27 zav27 bok27 szs27 sz27 (ps := []) rfl rfl (v := .agg [.bool false, .nil, .nil]) rfl ?_)
    refine wZ rg (o_alloc zav27 ok27 (kk := 3) rfl (fun g3 => ?_))
    refine wZ rg (o_storeB (atL (k := 8) rfl) sz27 (by decide) rfl (w := .agg [.bool false, .nil, .nil]) rfl rfl rfl (v := .agg [.bool false, .nil, .nil]) rfl setL ?_)
    refine nZ (qZ (qZ (rZ ?_)))
    refine mvZ (eL eRat dist) rfl ?_
    refine wZ rg (o_len td22 rfl ?_)
    refine mvZ (.int .i64 0) rfl ?_
    refine nZ ?_
    refine Vc.blk ?_
    obtain ⟨I, μ, h0, hI⟩ := h
    refine Vc.loop' (σ := (Int × GRat)) (fun y => I y) (fun y => μ y) (fun y => envOf [(1, .int .i64 i), (4, .ptr rg 4 g2 0 0), (8, .ptr rg 8 g3 0 0), (29, eL eRat dist), (30, .int .i64 (dist.length : Int)), (31, .int .i64 y.1)]) (fun y => stL S rg [(4, .arr 3 [.agg [.bool false, .nil, .nil]], g2), (8, .arr 3 [eRat y.2], g3)]) (0, (⟨false, [], []⟩ : GRat)) (EWk.trans (EWk.ow (k := 8) (o' := .arr 3 [eRat (⟨false, [], []⟩ : GRat)]) rfl (OW.one (VWL.vwc (vl' vr (vl' (VW.nilL) (vl' (VW.nilL) (vn))))))) (canon (fc vr (fc vr (fc vr (fc vr (fc vr (fc vr (fn))))))) (sc rfl (sc rfl (sn))))) h0 (fun y h => ?_)
    obtain ⟨x1, x2⟩ := y
    replace h := hI (x1, x2) h
    show Vc _ _ _ _ (envOf [(1, .int .i64 i), (4, .ptr rg 4 g2 0 0), (8, .ptr rg 8 g3 0 0), (29, eL eRat dist), (30, .int .i64 (dist.length : Int)), (31, .int .i64 x1)]) (stL S rg [(4, .arr 3 [.agg [.bool false, .nil, .nil]], g2), (8, .arr 3 [eRat x2], g3)])
    refine qZ (rZ ?_)
    refine wZ rg (o_lss rfl rfl ?_)
    refine nZ (qZ ?_)
    refine Vc.cond' rfl (fun hb2 => ?_) (fun hb2 => ?_)
    · replace h := h.1 hb2
      refine Vc.skip' ?_
      refine qZ ?_
      refine Vc.blk ?_
      refine qZ (rZ ?_)
      refine mvZ (.int .i64 x1) rfl ?_
      refine wZ rg (o_idxL td22 sz27 (by decide) (fun _ => rfl) rfl rfl h.1 ?_)
      replace h := h.2
      refine wZ rg (o_loadIA sz27 (by decide) ag27 rfl rfl (v := eRat (at' dist x1)) rfl ?_)
      refine wZ rg (o_alloc zav27 ok27 (kk := 3) rfl (fun g4 => ?_))
      refine asZ (.int .i64 x1) rfl ?_
      refine wZ rg (o_storeB (atL (k := 10) rfl) sz27 (by decide) rfl (w := eRat (at' dist x1)) rfl rfl rfl (v := eRat (at' dist x1)) rfl setL ?_)
      refine nZ (qZ (rZ ?_))
      refine mvZ (.int .i64 x1) rfl ?_
      refine mvZ (.int .i64 i) rfl ?_
      refine wZ rg (o_shr rfl rfl h.1 ?_)
      replace h := h.2
      refine wZ rg (o_and rfl rfl ?_)
      refine wZ rg (o_eql rfl rfl ?_)
      refine nZ ?_
      refine Vc.cond' rfl (fun hb3 => ?_) (fun hb3 => ?_)
      · replace h := h.1 hb3
        refine rZ ?_
        refine wZ rg (o_loadBA (atL (k := 8) rfl) sz27 (by decide) ag27 rfl rfl (v := eRat x2) rfl ?_)
        refine wZ rg (o_loadBA (atL (k := 10) rfl) sz27 (by decide) ag27 rfl rfl (v := eRat (at' dist x1)) rfl ?_)
        refine wZ rg (o_call (us := [eRat x2, eRat (at' dist x1)]) rfl (vl' vr (vl' vr (vn))) (ref02_Add_ctr h fun r2 h => ?_))
        refine wZ rg (o_storeB (atL (k := 8) rfl) sz27 (by decide) rfl (w := eRat r2) rfl rfl rfl (v := eRat r2) rfl setL ?_)
        refine nZ (rZ ?_)
        refine wZ rg (o_addG rfl rfl h.1 ?_)
        replace h := h.2
        refine mvZ (.int .i64 (x1 + 1)) rfl ?_
        refine nZ ?_
        exact ⟨((x1 + 1), r2), (canon (fc vr (fc vr (fc vr (fc vr (fc vr (fc vr (fn))))))) (sc rfl (sc rfl (sn)))), h⟩
      replace h := h.2 hb3
      refine Vc.skip' ?_
      refine rZ ?_
      refine wZ rg (o_addG rfl rfl h.1 ?_)
      replace h := h.2
      refine mvZ (.int .i64 (x1 + 1)) rfl ?_
      refine nZ ?_
      exact ⟨((x1 + 1), x2), (canon (fc vr (fc vr (fc vr (fc vr (fc vr (fc vr (fn))))))) (sc rfl (sc rfl (sn)))), h⟩
    replace h := h.2 hb2
    refine Vc.exit' (exB_self ?_)
    refine qZ (rZ ?_)
    refine wZ rg (o_loadBA (atL (k := 8) rfl) sz27 (by decide) ag27 rfl rfl (v := eRat x2) rfl ?_)
    refine wZ rg (o_storeB (atL (k := 4) rfl) sz27 (by decide) rfl (w := eRat x2) rfl rfl rfl (v := eRat x2) rfl setL ?_)
    refine asZ (.int .i64 0) rfl ?_
    refine nZ ?_
    refine Vc.ret' ?_
    refine res_cellA (atL (k := 4) rfl) sz27 (by decide) ag27 rfl rfl (v := eRat x2) rfl ?_
    refine res_tmp (v := .int .i64 0) rfl ?_
    refine res_nil ?_
    show Gives _ (.tuple [eRat x2, .int .i64 0]) _
    exact gives_out hrg (VW.tupL (vl' vr (vl' vr (vn)))) (hQ _ _ h)
  refine rZ ?_
  refine mvZ (.int .i64 i) rfl ?_
  refine wZ rg (o_lss rfl rfl ?_)
  refine mvZ (.bool (decide (i < 0))) rfl ?_
  refine Wl.guard rfl rfl (fun hb4 => ?_) (fun hb4 => ?_)
  · replace h := h.2 hb4
    refine mvZ (.int .i64 i) rfl ?_
    refine Wl.guardT rfl rfl hb4 ?_
    refine mvZ (.int .i64 r) rfl ?_
    refine Wl.guardT rfl rfl hb4 ?_
    refine wZ rg (o_geq rfl rfl ?_)
    refine wZ rg (o_pickF rfl hb4 (v := .bool (decide (r ≤ i))) rfl ?_)
    refine nZ ?_
    exact ⟨((decide (r ≤ i)), g1), (canon (fc vr (fc vr (fc vr (fc vr (fn))))) (sc rfl (sn))), h⟩
  replace h := h.1 hb4
  refine Wl.guardF rfl rfl hb4 rfl ?_
  refine Wl.guardF rfl rfl hb4 rfl ?_
  refine wZ rg (o_pickT rfl hb4 (v := .bool true) rfl ?_)
  refine nZ ?_
  exact ⟨(true, g1), (canon (fc vr (fc vr (fc vr (fc vr (fn))))) (sc rfl (sn))), h⟩
theorem ref50_Down_ctr {dist : List GRat} {f : GFormula} {Q : GRat → Int → Prop} {S : St} {R : AV → St → Prop} (h : ref50_Down_W dist f Q) (hQ : ∀ r1 r2, Q r1 r2 → R (.tuple [eRat r1, AV.int .i64 r2]) S) :
    Ctr Try.prog 52 [eL eRat dist, eFormula f] S R := by
  unfold ref50_Down_W at h
  refine enterT Try.func52 rfl Try.ntmps52 Try.results52 (by kernel_rfl) (fun rg hrg => ?_)
  refine qZ (rZ ?_)
  refine wZ rg (o_box (v := eFormula f) rfl rfl (kk := 3) rfl (by decide) (fun g1 => ?_))
  refine wZ rg (o_alloc zav27 ok27 (kk := 3) rfl (fun g2 => ?_))
  refine asZ (.int .i64 0) rfl ?_
  refine nZ (qZ (rZ ?_))
  refine mvZ (eL eRat dist) rfl ?_
  refine wZ rg (o_call (us := [eL eRat dist]) rfl (vl' vr (vn)) (ref50_Size_ctr h fun r r1 h => ?_))
  refine mvZ (.tuple [.int .i64 r, .int .i64 r1]) rfl ?_
  refine wZ rg (o_extract (v := .int .i64 r) rfl rfl rfl ?_)
  refine wZ rg (o_extract (v := .int .i64 r1) rfl rfl rfl ?_)
  refine asZ (.int .i64 r) rfl ?_
  refine asZ (.int .i64 r1) rfl ?_
  refine nZ ?_
  obtain ⟨J, h, hJ⟩ := h
  refine Vc.join' (σ := ((Int) × (Nat × Nat))) (fun y => J y.1) (fun y => envOf [(0, eL eRat dist), (3, .ptr rg 3 y.2.1 0 0), (4, .ptr rg 4 y.2.2 0 0), (6, .int .i64 r), (7, .int .i64 y.1)]) (fun y => stL S rg [(3, .arr 3 [eFormula f], y.2.1), (4, .arr 3 [.agg [.bool false, .nil, .nil]], y.2.2)]) (fun y h => ?_) ?_
  · obtain ⟨e, ⟨g3, g4⟩⟩ := y
    replace h := hJ e h
    show Vc _ _ _ _ (envOf [(0, eL eRat dist), (3, .ptr rg 3 g3 0 0), (4, .ptr rg 4 g4 0 0), (6, .int .i64 r), (7, .int .i64 e)]) (stL S rg [(3, .arr 3 [eFormula f], g3), (4, .arr 3 [.agg [.bool false, .nil, .nil]], g4)])
    refine qZ (qZ (rZ ?_))
    refine mvZ (.int .i64 e) rfl ?_
    refine wZ rg (o_neq rfl rfl ?_)
    refine nZ ?_
    refine Vc.cond' rfl (fun hb => ?_) (fun hb => ?_)
    · replace h := h.1 hb
      refine qZ (rZ ?_)
      refine wZ rg (o_build td27 zav27 bok27 szs27 sz27 (ps := []) rfl rfl (v := .agg [.bool false, .nil, .nil]) rfl ?_)
      refine mvZ (.int .i64 e) rfl ?_
      refine wZ rg (o_storeB (atL (k := 4) rfl) sz27 (by decide) rfl (w := .agg [.bool false, .nil, .nil]) rfl rfl rfl (v := .agg [.bool false, .nil, .nil]) rfl setL ?_)
      refine asZ (.int .i64 e) rfl ?_
      refine nZ ?_
      refine Vc.ret' ?_
      refine res_cellA (atL (k := 4) rfl) sz27 (by decide) ag27 rfl rfl (v := .agg [.bool false, .nil, .nil]) rfl ?_
      refine res_tmp (v := .int .i64 e) rfl ?_
      refine res_nil ?_
      show Gives _ (.tuple [.agg [.bool false, .nil, .nil], .int .i64 e]) _
      exact gives_out hrg (VW.tupL (vl' (VW.aggL (vl' vr (vl' (VW.nilL) (vl' (VW.nilL) (vn))))) (vl' vr (vn)))) (hQ _ _ h)
    replace h := h.2 hb
    refine Vc.skip' ?_
    refine qZ (qZ (rZ ?_))
    refine wZ rg (o_faP td70 rfl rfl (by rw [sz3]; decide) rfl ?_)
    refine wZ rg (o_loadB1 (atL (k := 3) rfl) sz3 ag3 rfl rfl (v := .int .i64 f.Vars) rfl ?_)
    refine mvZ (.int .i64 r) rfl ?_
    refine wZ rg (o_neq rfl rfl ?_)
    refine nZ ?_
    refine Vc.cond' rfl (fun hb1 => ?_) (fun hb1 => ?_)
    · replace h := h.1 hb1
      refine qZ (rZ ?_)
      refine wZ rg (o_build td27 zav27 bok27 szs27 sz27 (ps := []) rfl rfl (v := .agg [.bool false, .nil, .nil]) rfl ?_)
      refine wZ rg (o_storeB (atL (k := 4) rfl) sz27 (by decide) rfl (w := .agg [.bool false, .nil, .nil]) rfl rfl rfl (v := .agg [.bool false, .nil, .nil]) rfl setL ?_)
      refine asZ (.int .i64 11) rfl ?_
      refine nZ ?_
      refine Vc.ret' ?_
      refine res_cellA (atL (k := 4) rfl) sz27 (by decide) ag27 rfl rfl (v := .agg [.bool false, .nil, .nil]) rfl ?_
      refine res_tmp (v := .int .i64 11) rfl ?_
      refine res_nil ?_
      show Gives _ (.tuple [.agg [.bool false, .nil, .nil], .int .i64 11]) _
      exact gives_out hrg (VW.tupL (vl' (VW.aggL (vl' vr (vl' (VW.nilL) (vl' (VW.nilL) (vn))))) (vl' vr (vn)))) (hQ _ _ h)
    replace h := h.2 hb1
    refine Vc.skip' ?_
    refine qZ (rZ ?_)
    refine wZ rg (o_build td27 zav27 bok27 szs27 sz27 (ps := []) rfl rfl (v := .agg [.bool false, .nil, .nil]) rfl ?_)
    refine wZ rg (o_alloc zav27 ok27 (kk := 3) rfl (fun g5 => ?_))
    refine wZ rg (o_storeB (atL (k := 8) rfl) sz27 (by decide) rfl (w := .agg [.bool false, .nil, .nil]) rfl rfl rfl (v := .agg [.bool false, .nil, .nil]) rfl setL ?_)
    refine nZ (qZ (qZ (rZ ?_)))
    refine mvZ (eL eRat dist) rfl ?_
    refine wZ rg (o_len td22 rfl ?_)
    refine mvZ (.int .i64 0) rfl ?_
    refine nZ ?_
    refine Vc.blk ?_
    obtain ⟨I, μ, h0, hI⟩ := h
    refine Vc.loop' (σ := (Int × GRat)) (fun y => I y) (fun y => μ y) (fun y => envOf [(3, .ptr rg 3 g3 0 0), (4, .ptr rg 4 g4 0 0), (8, .ptr rg 8 g5 0 0), (30, eL eRat dist), (31, .int .i64 (dist.length : Int)), (32, .int .i64 y.1)]) (fun y => stL S rg [(3, .arr 3 [eFormula f], g3), (4, .arr 3 [.agg [.bool false, .nil, .nil]], g4), (8, .arr 3 [eRat y.2], g5)]) (0, (⟨false, [], []⟩ : GRat)) (EWk.trans (EWk.ow (k := 8) (o' := .arr 3 [eRat (⟨false, [], []⟩ : GRat)]) rfl (OW.one (VWL.vwc (vl' vr (vl' (VW.nilL) (vl' (VW.nilL) (vn))))))) (canon (fc vr (fc vr (fc vr (fc vr (fc vr (fc vr (fn))))))) (sc rfl (sc rfl (sc rfl (sn)))))) h0 (fun y h => ?_)
    obtain ⟨x, x1⟩ := y
    replace h := hI (x, x1) h
    show Vc _ _ _ _ (envOf [(3, .ptr rg 3 g3 0 0), (4, .ptr rg 4 g4 0 0), (8, .ptr rg 8 g5 0 0), (30, eL eRat dist), (31, .int .i64 (dist.length : Int)), (32, .int .i64 x)]) (stL S rg [(3, .arr 3 [eFormula f], g3), (4, .arr 3 [.agg [.bool false, .nil, .nil]], g4), (8, .arr 3 [eRat x1], g5)])
    refine qZ (rZ ?_)
    refine wZ rg (o_lss rfl rfl ?_)
    refine nZ (qZ ?_)
    refine Vc.cond' rfl (fun hb2 => ?_) (fun hb2 => ?_)
    · replace h := h.1 hb2
      refine Vc.skip' ?_
      refine qZ ?_
      refine Vc.blk ?_
      refine qZ (rZ ?_)
      refine mvZ (.int .i64 x) rfl ?_
      refine wZ rg (o_idxL td22 sz27 (by decide) (fun _ => rfl) rfl rfl h.1 ?_)
      replace h := h.2
      refine wZ rg (o_loadIA sz27 (by decide) ag27 rfl rfl (v := eRat (at' dist x)) rfl ?_)
      refine wZ rg (o_alloc zav27 ok27 (kk := 3) rfl (fun g6 => ?_))
      refine asZ (.int .i64 x) rfl ?_
      refine wZ rg (o_storeB (atL (k := 10) rfl) sz27 (by decide) rfl (w := eRat (at' dist x)) rfl rfl rfl (v := eRat (at' dist x)) rfl setL ?_)
      refine nZ (qZ (rZ ?_))
      refine wZ rg (o_loadBA (atL (k := 3) rfl) sz70 (by decide) ag70 rfl rfl (v := eFormula f) rfl ?_)
      refine mvZ (.int .i64 x) rfl ?_
      refine wZ rg (o_call (us := [eFormula f, AV.int .i64 x]) rfl (vl' vr (vl' vr (vn))) (ref08_Value_ctr h fun r2 h => ?_))
      refine nZ ?_
      refine Vc.cond' rfl (fun hb3 => ?_) (fun hb3 => ?_)
      · replace h := h.1 hb3
        refine rZ ?_
        refine wZ rg (o_loadBA (atL (k := 8) rfl) sz27 (by decide) ag27 rfl rfl (v := eRat x1) rfl ?_)
        refine wZ rg (o_loadBA (atL (k := 10) rfl) sz27 (by decide) ag27 rfl rfl (v := eRat (at' dist x)) rfl ?_)
        refine wZ rg (o_call (us := [eRat x1, eRat (at' dist x)]) rfl (vl' vr (vl' vr (vn))) (ref02_Add_ctr h fun r3 h => ?_))
        refine wZ rg (o_storeB (atL (k := 8) rfl) sz27 (by decide) rfl (w := eRat r3) rfl rfl rfl (v := eRat r3) rfl setL ?_)
        refine nZ (rZ ?_)
        refine wZ rg (o_addG rfl rfl h.1 ?_)
        replace h := h.2
        refine mvZ (.int .i64 (x + 1)) rfl ?_
        refine nZ ?_
        exact ⟨((x + 1), r3), (canon (fc vr (fc vr (fc vr (fc vr (fc vr (fc vr (fn))))))) (sc rfl (sc rfl (sc rfl (sn))))), h⟩
      replace h := h.2 hb3
      refine Vc.skip' ?_
      refine rZ ?_
      refine wZ rg (o_addG rfl rfl h.1 ?_)
      replace h := h.2
      refine mvZ (.int .i64 (x + 1)) rfl ?_
      refine nZ ?_
      exact ⟨((x + 1), x1), (canon (fc vr (fc vr (fc vr (fc vr (fc vr (fc vr (fn))))))) (sc rfl (sc rfl (sc rfl (sn))))), h⟩
    replace h := h.2 hb2
    refine Vc.exit' (exB_self ?_)
    refine qZ (rZ ?_)
    refine wZ rg (o_loadBA (atL (k := 8) rfl) sz27 (by decide) ag27 rfl rfl (v := eRat x1) rfl ?_)
    refine wZ rg (o_storeB (atL (k := 4) rfl) sz27 (by decide) rfl (w := eRat x1) rfl rfl rfl (v := eRat x1) rfl setL ?_)
    refine asZ (.int .i64 0) rfl ?_
    refine nZ ?_
    refine Vc.ret' ?_
    refine res_cellA (atL (k := 4) rfl) sz27 (by decide) ag27 rfl rfl (v := eRat x1) rfl ?_
    refine res_tmp (v := .int .i64 0) rfl ?_
    refine res_nil ?_
    show Gives _ (.tuple [eRat x1, .int .i64 0]) _
    exact gives_out hrg (VW.tupL (vl' vr (vl' vr (vn)))) (hQ _ _ h)
  refine qZ (rZ ?_)
  refine mvZ (.int .i64 r1) rfl ?_
  refine wZ rg (o_eql rfl rfl ?_)
  refine nZ ?_
  refine Vc.cond' rfl (fun hb4 => ?_) (fun hb4 => ?_)
  · replace h := h.1 hb4
    refine rZ ?_
    refine wZ rg (o_loadBA (atL (k := 3) rfl) sz70 (by decide) ag70 rfl rfl (v := eFormula f) rfl ?_)
    refine wZ rg (o_call (us := [eFormula f]) rfl (vl' vr (vn)) (ref08_Check_ctr h fun e1 h => ?_))
    refine asZ (.int .i64 e1) rfl ?_
    refine nZ ?_
    exact ⟨(e1, (g1, g2)), (canon (fc vr (fc vr (fc vr (fc vr (fc vr (fn)))))) (sc rfl (sc rfl (sn)))), h⟩
  replace h := h.2 hb4
  refine Vc.skip' ?_
  exact ⟨(r1, (g1, g2)), (canon (fc vr (fc vr (fc vr (fc vr (fc vr (fn)))))) (sc rfl (sc rfl (sn)))), h⟩
end Go.Proofs.Ytonbnfgknijpoaa
