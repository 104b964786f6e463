/- Walks of functions. Conditions: none. -/
import Derived.Test.YtonbnfgknijpoaaWPcommon
import Derived.Test.YtonbnfgknijpoaaGgTy
import Derived.Test.YtonbnfgknijpoaaKB
import Derived.Test.YtonbnfgknijpoaaKPcommon
namespace Go.Proofs.Ytonbnfgknijpoaa
open Go.Gg
set_option maxRecDepth 100000
theorem common_Total_ctr {q : List GRat} {Q : GRat → Option Int → Prop} {S : St} {R : AV → St → Prop} (h : common_Total_W q Q) (hQ : ∀ r1 r2, Q r1 r2 → R (.tuple [eRat r1, eErr 107 r2]) S) :
    Ctr Try.prog 42 [eL eRat q] S R := by
  unfold common_Total_W at h
  refine enterT Try.func42 rfl Try.ntmps42 Try.results42 (by kernel_rfl) (fun rg hrg => ?_)
  refine qZ (rZ ?_)
  refine wZ rg (o_alloc zav27 ok27 (kk := 3) rfl (fun g1 => ?_))
  refine asZ .niface rfl ?_
  refine nZ (qZ ?_)
  obtain ⟨J, h, hJ⟩ := h
  refine Vc.join' (σ := ((Bool) × (Nat))) (fun y => J y.1) (fun y => envOf [(0, eL eRat q), (2, .ptr rg 2 y.2 0 0), (14, .bool y.1)]) (fun y => stL S rg [(2, .arr 3 [.agg [.bool false, .nil, .nil]], y.2)]) (fun y h => ?_) ?_
  · obtain ⟨x, g2⟩ := y
    replace h := hJ x h
    show Vc _ _ _ _ (envOf [(0, eL eRat q), (2, .ptr rg 2 g2 0 0), (14, .bool x)]) (stL S rg [(2, .arr 3 [.agg [.bool false, .nil, .nil]], g2)])
    refine Vc.cond' rfl (fun hb => ?_) (fun hb => ?_)
    · replace h := h.1 hb
      refine qZ (rZ ?_)
      refine wZ rg (o_build td27 zav27 bok27 szs27 sz27 (ps := []) rfl rfl (v := .agg [.bool false, .nil, .nil]) rfl ?_)
      refine wZ rg (o_iface (by rw [td107]; trivial) (v := .int .i64 11) rfl ?_)
      refine wZ rg (o_storeB (atL (k := 2) rfl) sz27 (by decide) rfl (w := .agg [.bool false, .nil, .nil]) rfl rfl rfl (v := .agg [.bool false, .nil, .nil]) rfl setL ?_)
      refine asZ (.iface 107 (.int .i64 11)) rfl ?_
      refine nZ ?_
      refine Vc.ret' ?_
      refine res_cellA (atL (k := 2) rfl) sz27 (by decide) ag27 rfl rfl (v := .agg [.bool false, .nil, .nil]) rfl ?_
      refine res_tmp (v := .iface 107 (.int .i64 11)) rfl ?_
      refine res_nil ?_
      show Gives _ (.tuple [.agg [.bool false, .nil, .nil], .iface 107 (.int .i64 11)]) _
      exact gives_out hrg (VW.tupL (vl' (VW.aggL (vl' vr (vl' (VW.nilL) (vl' (VW.nilL) (vn))))) (vl' vr (vn)))) (hQ _ _ h)
    replace h := h.2 hb
    refine Vc.skip' ?_
    refine qZ (qZ (rZ ?_))
    refine mvZ (eL eRat q) rfl ?_
    refine wZ rg (o_call (us := [eL eRat q]) rfl (vl' vr (vn)) (common_probs_ctr h fun r h => ?_))
    refine wZ rg (o_not rfl ?_)
    refine nZ ?_
    refine Vc.cond' rfl (fun hb1 => ?_) (fun hb1 => ?_)
    · replace h := h.1 hb1
      refine qZ (rZ ?_)
      refine wZ rg (o_build td27 zav27 bok27 szs27 sz27 (ps := []) rfl rfl (v := .agg [.bool false, .nil, .nil]) rfl ?_)
      refine wZ rg (o_iface (by rw [td107]; trivial) (v := .int .i64 3) rfl ?_)
      refine wZ rg (o_storeB (atL (k := 2) rfl) sz27 (by decide) rfl (w := .agg [.bool false, .nil, .nil]) rfl rfl rfl (v := .agg [.bool false, .nil, .nil]) rfl setL ?_)
      refine asZ (.iface 107 (.int .i64 3)) rfl ?_
      refine nZ ?_
      refine Vc.ret' ?_
      refine res_cellA (atL (k := 2) rfl) sz27 (by decide) ag27 rfl rfl (v := .agg [.bool false, .nil, .nil]) rfl ?_
      refine res_tmp (v := .iface 107 (.int .i64 3)) rfl ?_
      refine res_nil ?_
      show Gives _ (.tuple [.agg [.bool false, .nil, .nil], .iface 107 (.int .i64 3)]) _
      exact gives_out hrg (VW.tupL (vl' (VW.aggL (vl' vr (vl' (VW.nilL) (vl' (VW.nilL) (vn))))) (vl' vr (vn)))) (hQ _ _ h)
    replace h := h.2 hb1
    refine Vc.skip' ?_
    refine qZ (rZ ?_)
    refine wZ rg (o_build td27 zav27 bok27 szs27 sz27 (ps := []) rfl rfl (v := .agg [.bool false, .nil, .nil]) rfl ?_)
    refine wZ rg (o_alloc zav27 ok27 (kk := 3) rfl (fun g3 => ?_))
    refine wZ rg (o_storeB (atL (k := 4) rfl) sz27 (by decide) rfl (w := .agg [.bool false, .nil, .nil]) rfl rfl rfl (v := .agg [.bool false, .nil, .nil]) rfl setL ?_)
    refine nZ (qZ (qZ (rZ ?_)))
    refine mvZ (eL eRat q) rfl ?_
    refine wZ rg (o_len td22 rfl ?_)
    refine mvZ (.int .i64 0) rfl ?_
    refine nZ ?_
    refine Vc.blk ?_
    obtain ⟨I, μ, h0, hI⟩ := h
    refine Vc.loop' (σ := (Int × GRat)) (fun y => I y) (fun y => μ y) (fun y => envOf [(0, eL eRat q), (2, .ptr rg 2 g2 0 0), (4, .ptr rg 4 g3 0 0), (23, eL eRat q), (24, .int .i64 (q.length : Int)), (25, .int .i64 y.1)]) (fun y => stL S rg [(2, .arr 3 [.agg [.bool false, .nil, .nil]], g2), (4, .arr 3 [eRat y.2], g3)]) (0, (⟨false, [], []⟩ : GRat)) (EWk.trans (EWk.ow (k := 4) (o' := .arr 3 [eRat (⟨false, [], []⟩ : GRat)]) rfl (OW.one (VWL.vwc (vl' vr (vl' (VW.nilL) (vl' (VW.nilL) (vn))))))) (canon (fc vr (fc vr (fc vr (fc vr (fc vr (fc vr (fn))))))) (sc rfl (sc rfl (sn))))) h0 (fun y h => ?_)
    obtain ⟨x1, x2⟩ := y
    replace h := hI (x1, x2) h
    show Vc _ _ _ _ (envOf [(0, eL eRat q), (2, .ptr rg 2 g2 0 0), (4, .ptr rg 4 g3 0 0), (23, eL eRat q), (24, .int .i64 (q.length : Int)), (25, .int .i64 x1)]) (stL S rg [(2, .arr 3 [.agg [.bool false, .nil, .nil]], g2), (4, .arr 3 [eRat x2], g3)])
    refine qZ (rZ ?_)
    refine wZ rg (o_lss rfl rfl ?_)
    refine nZ (qZ ?_)
    refine Vc.cond' rfl (fun hb2 => ?_) (fun hb2 => ?_)
    · replace h := h.1 hb2
      refine Vc.skip' ?_
      refine qZ ?_
      refine Vc.blk ?_
      refine qZ (rZ ?_)
      refine mvZ (.int .i64 x1) rfl ?_
      refine wZ rg (o_idxL td22 sz27 (by decide) (fun _ => rfl) rfl rfl h.1 ?_)
      replace h := h.2
      refine wZ rg (o_loadIA sz27 (by decide) ag27 rfl rfl (v := eRat (at' q x1)) rfl ?_)
      refine wZ rg (o_alloc zav27 ok27 (kk := 3) rfl (fun g4 => ?_))
      refine asZ (.int .i64 x1) rfl ?_
      refine wZ rg (o_storeB (atL (k := 6) rfl) sz27 (by decide) rfl (w := eRat (at' q x1)) rfl rfl rfl (v := eRat (at' q x1)) rfl setL ?_)
      refine nZ ?_
      have hg := h.1
      replace h := h.2
      obtain ⟨r1, hc, h⟩ := h
      obtain ⟨r2, hc1, h⟩ := h
      obtain ⟨r3, hc2, h⟩ := h
      obtain ⟨r4, hc3, h⟩ := h
      refine Vc.drawn' mixed rg (usOf [(6, pc (.int .i64 r1)), (7, pc (eRat r2)), (8, pc (eRat r3)), (9, pc (eRat r4))]) (by kernel_rfl) ?_
      refine dL (E := ([(rg, 4)], none)) rfl rfl (by simp) (cfn) (o_loadBA (atL (k := 4) rfl) sz27 (by decide) ag27 rfl rfl (v := eRat x2) rfl ?_)
      refine dL (E := ([(rg, 6)], none)) rfl rfl (by simp) (cfa (by simp [apartE]) (cfn)) (o_loadBA (atL (k := 6) rfl) sz27 (by decide) ag27 rfl rfl (v := eRat (at' q x1)) rfl ?_)
      refine dP rfl rfl (o_move (v := eL eRat q) rfl ?_)
      refine dP rfl rfl (o_len td22 rfl ?_)
      refine dP rfl rfl (o_subG rfl rfl hg ?_)
      refine dP rfl rfl (o_move (v := .int .i64 x1) rfl ?_)
      refine dC (vs := [AV.int .i64 ((q.length : Int) - 1), AV.int .i64 x1]) rfl (vl' vr (vl' vr (vn))) (fun _ => common_choose_ctr hc (fun _ hr => ⟨by rw [hr], rfl⟩)) rfl ?_
      refine dC (vs := [AV.int .i64 r1]) rfl (vl' vr (vn)) (fun _ => rational_Of_ctr hc1 (fun _ hr => ⟨by rw [hr], rfl⟩)) rfl ?_
      refine dC (vs := [eRat (at' q x1), eRat r2]) rfl (vl' vr (vl' vr (vn))) (fun _ => rational_Mul_ctr hc2 (fun _ hr => ⟨by rw [hr], rfl⟩)) rfl ?_
      refine dC (vs := [eRat x2, eRat r3]) rfl (vl' vr (vl' vr (vn))) (fun _ => rational_Add_ctr hc3 (fun _ hr => ⟨by rw [hr], rfl⟩)) rfl ?_
      refine dL (E := ([], some (rg, 4))) rfl rfl (by simp) (cfo (by kernel_rfl) (cfo (by kernel_rfl) (cfn))) (o_storeB (atL (k := 4) rfl) sz27 (by decide) rfl (w := eRat r4) rfl rfl rfl (v := eRat r4) rfl setL ?_)
      refine dN ?_
      refine rZ ?_
      refine wZ rg (o_addG rfl rfl h.1 ?_)
      replace h := h.2
      refine mvZ (.int .i64 (x1 + 1)) rfl ?_
      refine nZ ?_
      exact ⟨((x1 + 1), r4), (canon (fc vr (fc vr (fc vr (fc vr (fc vr (fc vr (fn))))))) (sc rfl (sc rfl (sn)))), h⟩
    replace h := h.2 hb2
    refine Vc.exit' (exB_self ?_)
    refine qZ (rZ ?_)
    refine wZ rg (o_loadBA (atL (k := 4) rfl) sz27 (by decide) ag27 rfl rfl (v := eRat x2) rfl ?_)
    refine wZ rg (o_storeB (atL (k := 2) rfl) sz27 (by decide) rfl (w := eRat x2) rfl rfl rfl (v := eRat x2) rfl setL ?_)
    refine asZ .niface rfl ?_
    refine nZ ?_
    refine Vc.ret' ?_
    refine res_cellA (atL (k := 2) rfl) sz27 (by decide) ag27 rfl rfl (v := eRat x2) rfl ?_
    refine res_tmp (v := .niface) rfl ?_
    refine res_nil ?_
    show Gives _ (.tuple [eRat x2, .niface]) _
    exact gives_out hrg (VW.tupL (vl' vr (vl' vr (vn)))) (hQ _ _ h)
  refine rZ ?_
  refine mvZ (eL eRat q) rfl ?_
  refine wZ rg (o_len td22 rfl ?_)
  refine wZ rg (o_lss rfl rfl ?_)
  refine mvZ (.bool (decide ((q.length : Int) < 2))) rfl ?_
  refine Wl.guard rfl rfl (fun hb3 => ?_) (fun hb3 => ?_)
  · replace h := h.2 hb3
    refine mvZ (eL eRat q) rfl ?_
    refine Wl.guardT rfl rfl hb3 ?_
    refine wZ rg (o_len td22 rfl ?_)
    refine Wl.guardT rfl rfl hb3 ?_
    refine wZ rg (o_gtr rfl rfl ?_)
    refine wZ rg (o_pickF rfl hb3 (v := .bool (decide (4 < (q.length : Int)))) rfl ?_)
    refine nZ ?_
    exact ⟨((decide (4 < (q.length : Int))), g1), (canon (fc vr (fc vr (fc vr (fn)))) (sc rfl (sn))), h⟩
  replace h := h.1 hb3
  refine Wl.guardF rfl rfl hb3 rfl ?_
  refine Wl.guardF rfl rfl hb3 rfl ?_
  refine wZ rg (o_pickT rfl hb3 (v := .bool true) rfl ?_)
  refine nZ ?_
  exact ⟨(true, g1), (canon (fc vr (fc vr (fc vr (fn)))) (sc rfl (sn))), h⟩
end Go.Proofs.Ytonbnfgknijpoaa
