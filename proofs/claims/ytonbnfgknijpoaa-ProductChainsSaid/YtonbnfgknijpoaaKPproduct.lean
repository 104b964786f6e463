/- Walks of functions. Conditions: none. -/
import Derived.Test.YtonbnfgknijpoaaWPproduct
import Derived.Test.YtonbnfgknijpoaaGgTy
import Derived.Test.YtonbnfgknijpoaaKB
namespace Go.Proofs.Ytonbnfgknijpoaa
open Go.Gg
set_option maxRecDepth 100000
theorem product_rate_ctr {x : GRat} {Q : Bool → Prop} {S : St} {R : AV → St → Prop} (h : product_rate_W x Q) (hQ : ∀ r1, Q r1 → R (AV.bool r1) S) :
    Ctr Try.prog 89 [eRat x] S R := by
  unfold product_rate_W at h
  refine enterT Try.func89 rfl Try.ntmps89 Try.results89 (by kernel_rfl) (fun rg hrg => ?_)
  refine qZ (rZ ?_)
  refine wZ rg (o_box (v := eRat x) rfl rfl (kk := 3) rfl (by decide) (fun g1 => ?_))
  refine asZ (.bool false) rfl ?_
  refine nZ (qZ (rZ ?_))
  refine wZ rg (o_loadBA (atL (k := 1) rfl) sz27 (by decide) ag27 rfl rfl (v := eRat x) rfl ?_)
  refine wZ rg (o_call (us := [eRat x]) rfl (vl' vr (vn)) (rational_Valid_ctr h fun r h => ?_))
  refine mvZ (.bool r) rfl ?_
  refine Wl.guard rfl rfl (fun hb => ?_) (fun hb => ?_)
  · replace h := h.1 hb
    refine wZ rg (o_loadBA (atL (k := 1) rfl) sz27 (by decide) ag27 rfl rfl (v := eRat x) rfl ?_)
    refine Wl.guardT rfl rfl hb ?_
    refine wZ rg (o_call (us := [eRat x]) rfl (vl' vr (vn)) (rational_Sign_ctr h fun r1 h => ?_))
    refine Wl.guardT rfl rfl hb ?_
    refine wZ rg (o_geq rfl rfl ?_)
    refine wZ rg (o_pickT rfl hb (v := .bool (decide (0 ≤ r1))) rfl ?_)
    refine asZ (.bool (decide (0 ≤ r1))) rfl ?_
    refine nZ ?_
    refine Vc.ret' ?_
    refine res_tmp (v := .bool (decide (0 ≤ r1))) rfl ?_
    refine res_nil ?_
    show Gives _ (.bool (decide (0 ≤ r1))) _
    exact gives_out hrg (VW.refl _) (hQ _ h)
  replace h := h.2 hb
  refine Wl.guardF rfl rfl hb rfl ?_
  refine Wl.guardF rfl rfl hb rfl ?_
  refine wZ rg (o_pickF rfl hb (v := .bool false) rfl ?_)
  refine asZ (.bool false) rfl ?_
  refine nZ ?_
  refine Vc.ret' ?_
  refine res_tmp (v := .bool false) rfl ?_
  refine res_nil ?_
  show Gives _ (.bool false) _
  exact gives_out hrg (VW.refl _) (hQ _ h)
theorem product_Unavailable_ctr {fail : GRat} {repair : GRat} {Q : GRat → Option Int → Prop} {S : St} {R : AV → St → Prop} (h : product_Unavailable_W fail repair Q) (hQ : ∀ r1 r2, Q r1 r2 → R (.tuple [eRat r1, eErr 107 r2]) S) :
    Ctr Try.prog 25 [eRat fail, eRat repair] S R := by
  unfold product_Unavailable_W at h
  refine enterT Try.func25 rfl Try.ntmps25 Try.results25 (by kernel_rfl) (fun rg hrg => ?_)
  refine qZ (rZ ?_)
  refine wZ rg (o_box (v := eRat fail) rfl rfl (kk := 3) rfl (by decide) (fun g1 => ?_))
  refine wZ rg (o_box (v := eRat repair) rfl rfl (kk := 3) rfl (by decide) (fun g2 => ?_))
  refine wZ rg (o_alloc zav27 ok27 (kk := 3) rfl (fun g3 => ?_))
  refine asZ .niface rfl ?_
  refine nZ (qZ ?_)
  obtain ⟨J, h, hJ⟩ := h
  refine Vc.join' (σ := ((Bool) × (Nat × Nat × Nat))) (fun y => J y.1) (fun y => envOf [(2, .ptr rg 2 y.2.1 0 0), (3, .ptr rg 3 y.2.2.1 0 0), (4, .ptr rg 4 y.2.2.2 0 0), (13, .bool y.1)]) (fun y => stL S rg [(2, .arr 3 [eRat fail], y.2.1), (3, .arr 3 [eRat repair], y.2.2.1), (4, .arr 3 [.agg [.bool false, .nil, .nil]], y.2.2.2)]) (fun y h => ?_) ?_
  · obtain ⟨x, ⟨g4, g5, g6⟩⟩ := y
    replace h := hJ x h
    show Vc _ _ _ _ (envOf [(2, .ptr rg 2 g4 0 0), (3, .ptr rg 3 g5 0 0), (4, .ptr rg 4 g6 0 0), (13, .bool x)]) (stL S rg [(2, .arr 3 [eRat fail], g4), (3, .arr 3 [eRat repair], g5), (4, .arr 3 [.agg [.bool false, .nil, .nil]], g6)])
    refine Vc.cond' rfl (fun hb => ?_) (fun hb => ?_)
    · replace h := h.1 hb
      refine qZ (rZ ?_)
      refine wZ rg (o_build td27 zav27 bok27 szs27 sz27 (ps := []) rfl rfl (v := .agg [.bool false, .nil, .nil]) rfl ?_)
      refine wZ rg (o_iface (by rw [td107]; trivial) (v := .int .i64 3) rfl ?_)
      refine wZ rg (o_storeB (atL (k := 4) rfl) sz27 (by decide) rfl (w := .agg [.bool false, .nil, .nil]) rfl rfl rfl (v := .agg [.bool false, .nil, .nil]) rfl setL ?_)
      refine asZ (.iface 107 (.int .i64 3)) rfl ?_
      refine nZ ?_
      refine Vc.ret' ?_
      refine res_cellA (atL (k := 4) rfl) sz27 (by decide) ag27 rfl rfl (v := .agg [.bool false, .nil, .nil]) rfl ?_
      refine res_tmp (v := .iface 107 (.int .i64 3)) rfl ?_
      refine res_nil ?_
      show Gives _ (.tuple [.agg [.bool false, .nil, .nil], .iface 107 (.int .i64 3)]) _
      exact gives_out hrg (VW.tupL (vl' (VW.aggL (vl' vr (vl' (VW.nilL) (vl' (VW.nilL) (vn))))) (vl' vr (vn)))) (hQ _ _ h)
    replace h := h.2 hb
    refine Vc.skip' ?_
    refine qZ ?_
    obtain ⟨r, hc, h⟩ := h
    obtain ⟨r1, r2, hc1, h⟩ := h
    refine Vc.drawn' mixed rg (usOf [(3, pc (eRat r)), (4, pc (.tuple [eRat r1, eErr 107 r2]))]) (by kernel_rfl) ?_
    refine dL (E := ([(rg, 2)], [])) rfl rfl (by simp) (cfn) (o_loadBA (atL (k := 2) rfl) sz27 (by decide) ag27 rfl rfl (v := eRat fail) rfl ?_)
    refine dL (E := ([(rg, 2)], [])) rfl rfl (by simp) (cfa (by simp [apartE]) (cfn)) (o_loadBA (atL (k := 2) rfl) sz27 (by decide) ag27 rfl rfl (v := eRat fail) rfl ?_)
    refine dL (E := ([(rg, 3)], [])) rfl rfl (by simp) (cfa (by simp [apartE]) (cfa (by simp [apartE]) (cfn))) (o_loadBA (atL (k := 3) rfl) sz27 (by decide) ag27 rfl rfl (v := eRat repair) rfl ?_)
    refine dC (vs := [eRat fail, eRat repair]) rfl (vl' vr (vl' vr (vn))) (fun _ => rational_Add_ctr hc (fun _ hr => ⟨by rw [hr], rfl⟩)) rfl ?_
    refine dC (vs := [eRat fail, eRat r]) rfl (vl' vr (vl' vr (vn))) (fun _ => rational_Div_ctr hc1 (fun _ _ hr => ⟨by rw [hr.1, hr.2], rfl⟩)) rfl ?_
    refine dP rfl rfl (o_extract (v := eRat r1) rfl rfl rfl ?_)
    refine dP rfl rfl (o_extract (v := eErr 107 r2) rfl rfl rfl ?_)
    refine dL (E := ([], [(rg, 4)])) rfl rfl (by simp) (cfo (by kernel_rfl) (cfo (by kernel_rfl) (cfo (by kernel_rfl) (cfn)))) (o_storeB (atL (k := 4) rfl) sz27 (by decide) rfl (w := eRat r1) rfl rfl rfl (v := eRat r1) rfl setL ?_)
    refine dP rfl rfl (o_assign (v := eErr 107 r2) rfl ?_)
    refine dN ?_
    refine Vc.ret' ?_
    refine res_cellA (atL (k := 4) rfl) sz27 (by decide) ag27 rfl rfl (v := eRat r1) rfl ?_
    refine res_tmp (v := eErr 107 r2) rfl ?_
    refine res_nil ?_
    show Gives _ (.tuple [eRat r1, eErr 107 r2]) _
    exact gives_out hrg (VW.tupL (vl' vr (vl' vr (vn)))) (hQ _ _ h)
  refine rZ ?_
  refine wZ rg (o_loadBA (atL (k := 2) rfl) sz27 (by decide) ag27 rfl rfl (v := eRat fail) rfl ?_)
  refine wZ rg (o_call (us := [eRat fail]) rfl (vl' vr (vn)) (product_rate_ctr h fun r3 h => ?_))
  refine wZ rg (o_not rfl ?_)
  refine mvZ (.bool (!r3)) rfl ?_
  refine Wl.guard rfl rfl (fun hb1 => ?_) (fun hb1 => ?_)
  · replace h := h.2 hb1
    refine wZ rg (o_loadBA (atL (k := 3) rfl) sz27 (by decide) ag27 rfl rfl (v := eRat repair) rfl ?_)
    refine Wl.guardT rfl rfl hb1 ?_
    refine wZ rg (o_call (us := [eRat repair]) rfl (vl' vr (vn)) (product_rate_ctr h fun r4 h => ?_))
    refine Wl.guardT rfl rfl hb1 ?_
    refine wZ rg (o_not rfl ?_)
    refine wZ rg (o_pickF rfl hb1 (v := .bool (!r4)) rfl ?_)
    refine nZ ?_
    exact ⟨((!r4), (g1, g2, g3)), (canon (fc vr (fc vr (fc vr (fc vr (fn))))) (sc rfl (sc rfl (sc rfl (sn))))), h⟩
  replace h := h.1 hb1
  refine Wl.guardF rfl rfl hb1 rfl ?_
  refine Wl.guardF rfl rfl hb1 rfl ?_
  refine wZ rg (o_pickT rfl hb1 (v := .bool true) rfl ?_)
  refine nZ ?_
  exact ⟨(true, (g1, g2, g3)), (canon (fc vr (fc vr (fc vr (fc vr (fn))))) (sc rfl (sc rfl (sc rfl (sn))))), h⟩
theorem product_check_ctr {fail : List GRat} {repair : List GRat} {Q : Option Int → Prop} {S : St} {R : AV → St → Prop} (h : product_check_W fail repair Q) (hQ : ∀ r1, Q r1 → R (eErr 107 r1) S) :
    Ctr Try.prog 85 [eL eRat fail, eL eRat repair] S R := by
  unfold product_check_W at h
  refine enterT Try.func85 rfl Try.ntmps85 Try.results85 (by kernel_rfl) (fun rg hrg => ?_)
  refine qZ (rZ ?_)
  refine asZ .niface rfl ?_
  refine nZ (qZ ?_)
  obtain ⟨J, h, hJ⟩ := h
  refine Vc.join' (σ := (Bool)) (fun y => J y) (fun y => envOf [(0, eL eRat fail), (1, eL eRat repair), (16, .bool y)]) (fun y => stL S rg []) (fun x h => ?_) ?_
  · replace h := hJ x h
    show Vc _ _ _ _ (envOf [(0, eL eRat fail), (1, eL eRat repair), (16, .bool x)]) (stL S rg [])
    refine Vc.cond' rfl (fun hb => ?_) (fun hb => ?_)
    · replace h := h.1 hb
      refine qZ (rZ ?_)
      refine wZ rg (o_iface (by rw [td107]; trivial) (v := .int .i64 11) rfl ?_)
      refine asZ (.iface 107 (.int .i64 11)) rfl ?_
      refine nZ ?_
      refine Vc.ret' ?_
      refine res_tmp (v := .iface 107 (.int .i64 11)) rfl ?_
      refine res_nil ?_
      show Gives _ (.iface 107 (.int .i64 11)) _
      exact gives_out hrg (VW.refl _) (hQ _ h)
    replace h := h.2 hb
    refine Vc.skip' ?_
    refine qZ (qZ (rZ ?_))
    refine mvZ (eL eRat fail) rfl ?_
    refine wZ rg (o_len td22 rfl ?_)
    refine wZ rg (o_gtr rfl rfl ?_)
    refine nZ ?_
    refine Vc.cond' rfl (fun hb1 => ?_) (fun hb1 => ?_)
    · replace h := h.1 hb1
      refine qZ (rZ ?_)
      refine wZ rg (o_iface (by rw [td107]; trivial) (v := .int .i64 4) rfl ?_)
      refine asZ (.iface 107 (.int .i64 4)) rfl ?_
      refine nZ ?_
      refine Vc.ret' ?_
      refine res_tmp (v := .iface 107 (.int .i64 4)) rfl ?_
      refine res_nil ?_
      show Gives _ (.iface 107 (.int .i64 4)) _
      exact gives_out hrg (VW.refl _) (hQ _ h)
    replace h := h.2 hb1
    refine Vc.skip' ?_
    refine qZ (qZ (rZ ?_))
    refine mvZ (eL eRat fail) rfl ?_
    refine wZ rg (o_len td22 rfl ?_)
    refine mvZ (.int .i64 0) rfl ?_
    refine nZ ?_
    refine Vc.blk ?_
    obtain ⟨I, μ, h0, hI⟩ := h
    refine Vc.loop' (σ := (Int)) (fun y => I y) (fun y => μ y) (fun y => envOf [(0, eL eRat fail), (1, eL eRat repair), (23, .int .i64 (fail.length : Int)), (24, .int .i64 y)]) (fun y => stL S rg []) 0 (canon (fc vr (fc vr (fc vr (fc vr (fn))))) (sn)) h0 (fun x1 h => ?_)
    replace h := hI x1 h
    show Vc _ _ _ _ (envOf [(0, eL eRat fail), (1, eL eRat repair), (23, .int .i64 (fail.length : Int)), (24, .int .i64 x1)]) (stL S rg [])
    refine qZ (rZ ?_)
    refine wZ rg (o_lss rfl rfl ?_)
    refine nZ (qZ ?_)
    refine Vc.cond' rfl (fun hb2 => ?_) (fun hb2 => ?_)
    · replace h := h.1 hb2
      refine Vc.skip' ?_
      refine qZ ?_
      refine Vc.blk ?_
      refine qZ (rZ ?_)
      refine mvZ (.int .i64 x1) rfl ?_
      refine asZ (.int .i64 x1) rfl ?_
      refine nZ ?_
      obtain ⟨J, h, hJ⟩ := h
      refine Vc.join' (σ := (Bool)) (fun y => J y) (fun y => envOf [(0, eL eRat fail), (1, eL eRat repair), (23, .int .i64 (fail.length : Int)), (24, .int .i64 x1), (40, .bool y)]) (fun y => stL S rg []) (fun x2 h => ?_) ?_
      · replace h := hJ x2 h
        show Vc _ _ _ _ (envOf [(0, eL eRat fail), (1, eL eRat repair), (23, .int .i64 (fail.length : Int)), (24, .int .i64 x1), (40, .bool x2)]) (stL S rg [])
        refine Vc.cond' rfl (fun hb3 => ?_) (fun hb3 => ?_)
        · replace h := h.1 hb3
          refine qZ (rZ ?_)
          refine wZ rg (o_iface (by rw [td107]; trivial) (v := .int .i64 3) rfl ?_)
          refine asZ (.iface 107 (.int .i64 3)) rfl ?_
          refine nZ ?_
          refine Vc.ret' ?_
          refine res_tmp (v := .iface 107 (.int .i64 3)) rfl ?_
          refine res_nil ?_
          show Gives _ (.iface 107 (.int .i64 3)) _
          exact gives_out hrg (VW.refl _) (hQ _ h)
        replace h := h.2 hb3
        refine Vc.skip' ?_
        refine rZ ?_
        refine wZ rg (o_addG rfl rfl h.1 ?_)
        replace h := h.2
        refine mvZ (.int .i64 (x1 + 1)) rfl ?_
        refine nZ ?_
        exact ⟨(x1 + 1), (canon (fc vr (fc vr (fc vr (fc vr (fn))))) (sn)), h⟩
      refine rZ ?_
      refine mvZ (eL eRat fail) rfl ?_
      refine mvZ (.int .i64 x1) rfl ?_
      refine wZ rg (o_idxL td22 sz27 (by decide) (fun _ => rfl) rfl rfl h.1 ?_)
      replace h := h.2
      refine wZ rg (o_loadIA sz27 (by decide) ag27 rfl rfl (v := eRat (at' fail x1)) rfl ?_)
      refine wZ rg (o_call (us := [eRat (at' fail x1)]) rfl (vl' vr (vn)) (product_rate_ctr h fun r h => ?_))
      refine wZ rg (o_not rfl ?_)
      refine mvZ (.bool (!r)) rfl ?_
      refine Wl.guard rfl rfl (fun hb4 => ?_) (fun hb4 => ?_)
      · replace h := h.2 hb4
        refine mvZ (eL eRat repair) rfl ?_
        refine Wl.guardT rfl rfl hb4 ?_
        refine mvZ (.int .i64 x1) rfl ?_
        refine Wl.guardT rfl rfl hb4 ?_
        refine wZ rg (o_idxL td22 sz27 (by decide) (fun _ => rfl) rfl rfl h.1 ?_)
        replace h := h.2
        refine Wl.guardT rfl rfl hb4 ?_
        refine wZ rg (o_loadIA sz27 (by decide) ag27 rfl rfl (v := eRat (at' repair x1)) rfl ?_)
        refine Wl.guardT rfl rfl hb4 ?_
        refine wZ rg (o_call (us := [eRat (at' repair x1)]) rfl (vl' vr (vn)) (product_rate_ctr h fun r1 h => ?_))
        refine Wl.guardT rfl rfl hb4 ?_
        refine wZ rg (o_not rfl ?_)
        refine wZ rg (o_pickF rfl hb4 (v := .bool (!r1)) rfl ?_)
        refine nZ ?_
        exact ⟨(!r1), (canon (fc vr (fc vr (fc vr (fc vr (fc vr (fn)))))) (sn)), h⟩
      replace h := h.1 hb4
      refine Wl.guardF rfl rfl hb4 rfl ?_
      refine Wl.guardF rfl rfl hb4 rfl ?_
      refine Wl.guardF rfl rfl hb4 rfl ?_
      refine Wl.guardF rfl rfl hb4 rfl ?_
      refine Wl.guardF rfl rfl hb4 rfl ?_
      refine wZ rg (o_pickT rfl hb4 (v := .bool true) rfl ?_)
      refine nZ ?_
      exact ⟨true, (canon (fc vr (fc vr (fc vr (fc vr (fc vr (fn)))))) (sn)), h⟩
    replace h := h.2 hb2
    refine Vc.exit' (exB_self ?_)
    refine qZ (qZ (rZ ?_))
    refine mvZ (eL eRat fail) rfl ?_
    refine wZ rg (o_len td22 rfl ?_)
    refine mvZ (.int .i64 0) rfl ?_
    refine nZ ?_
    refine Vc.blk ?_
    obtain ⟨I, μ, h0, hI⟩ := h
    refine Vc.loop' (σ := (Int)) (fun y => I y) (fun y => μ y) (fun y => envOf [(0, eL eRat fail), (1, eL eRat repair), (44, .int .i64 (fail.length : Int)), (45, .int .i64 y)]) (fun y => stL S rg []) 0 (canon (fc vr (fc vr (fc vr (fc vr (fn))))) (sn)) h0 (fun x3 h => ?_)
    replace h := hI x3 h
    show Vc _ _ _ _ (envOf [(0, eL eRat fail), (1, eL eRat repair), (44, .int .i64 (fail.length : Int)), (45, .int .i64 x3)]) (stL S rg [])
    refine qZ (rZ ?_)
    refine wZ rg (o_lss rfl rfl ?_)
    refine nZ (qZ ?_)
    refine Vc.cond' rfl (fun hb5 => ?_) (fun hb5 => ?_)
    · replace h := h.1 hb5
      refine Vc.skip' ?_
      refine qZ ?_
      refine Vc.blk ?_
      refine qZ (rZ ?_)
      refine mvZ (.int .i64 x3) rfl ?_
      refine asZ (.int .i64 x3) rfl ?_
      refine nZ ?_
      obtain ⟨J, h, hJ⟩ := h
      refine Vc.join' (σ := (Bool)) (fun y => J y) (fun y => envOf [(0, eL eRat fail), (1, eL eRat repair), (44, .int .i64 (fail.length : Int)), (45, .int .i64 x3), (61, .bool y)]) (fun y => stL S rg []) (fun x4 h => ?_) ?_
      · replace h := hJ x4 h
        show Vc _ _ _ _ (envOf [(0, eL eRat fail), (1, eL eRat repair), (44, .int .i64 (fail.length : Int)), (45, .int .i64 x3), (61, .bool x4)]) (stL S rg [])
        refine Vc.cond' rfl (fun hb6 => ?_) (fun hb6 => ?_)
        · replace h := h.1 hb6
          refine qZ (rZ ?_)
          refine wZ rg (o_iface (by rw [td107]; trivial) (v := .int .i64 8) rfl ?_)
          refine asZ (.iface 107 (.int .i64 8)) rfl ?_
          refine nZ ?_
          refine Vc.ret' ?_
          refine res_tmp (v := .iface 107 (.int .i64 8)) rfl ?_
          refine res_nil ?_
          show Gives _ (.iface 107 (.int .i64 8)) _
          exact gives_out hrg (VW.refl _) (hQ _ h)
        replace h := h.2 hb6
        refine Vc.skip' ?_
        refine rZ ?_
        refine wZ rg (o_addG rfl rfl h.1 ?_)
        replace h := h.2
        refine mvZ (.int .i64 (x3 + 1)) rfl ?_
        refine nZ ?_
        exact ⟨(x3 + 1), (canon (fc vr (fc vr (fc vr (fc vr (fn))))) (sn)), h⟩
      refine rZ ?_
      refine mvZ (eL eRat fail) rfl ?_
      refine mvZ (.int .i64 x3) rfl ?_
      refine wZ rg (o_idxL td22 sz27 (by decide) (fun _ => rfl) rfl rfl h.1 ?_)
      replace h := h.2
      refine wZ rg (o_loadIA sz27 (by decide) ag27 rfl rfl (v := eRat (at' fail x3)) rfl ?_)
      refine wZ rg (o_call (us := [eRat (at' fail x3)]) rfl (vl' vr (vn)) (rational_Sign_ctr h fun r2 h => ?_))
      refine wZ rg (o_eql rfl rfl ?_)
      refine mvZ (.bool (r2 == 0)) rfl ?_
      refine Wl.guard rfl rfl (fun hb7 => ?_) (fun hb7 => ?_)
      · replace h := h.1 hb7
        refine mvZ (eL eRat repair) rfl ?_
        refine Wl.guardT rfl rfl hb7 ?_
        refine mvZ (.int .i64 x3) rfl ?_
        refine Wl.guardT rfl rfl hb7 ?_
        refine wZ rg (o_idxL td22 sz27 (by decide) (fun _ => rfl) rfl rfl h.1 ?_)
        replace h := h.2
        refine Wl.guardT rfl rfl hb7 ?_
        refine wZ rg (o_loadIA sz27 (by decide) ag27 rfl rfl (v := eRat (at' repair x3)) rfl ?_)
        refine Wl.guardT rfl rfl hb7 ?_
        refine wZ rg (o_call (us := [eRat (at' repair x3)]) rfl (vl' vr (vn)) (rational_Sign_ctr h fun r3 h => ?_))
        refine Wl.guardT rfl rfl hb7 ?_
        refine wZ rg (o_eql rfl rfl ?_)
        refine wZ rg (o_pickT rfl hb7 (v := .bool (r3 == 0)) rfl ?_)
        refine nZ ?_
        exact ⟨(r3 == 0), (canon (fc vr (fc vr (fc vr (fc vr (fc vr (fn)))))) (sn)), h⟩
      replace h := h.2 hb7
      refine Wl.guardF rfl rfl hb7 rfl ?_
      refine Wl.guardF rfl rfl hb7 rfl ?_
      refine Wl.guardF rfl rfl hb7 rfl ?_
      refine Wl.guardF rfl rfl hb7 rfl ?_
      refine Wl.guardF rfl rfl hb7 rfl ?_
      refine wZ rg (o_pickF rfl hb7 (v := .bool false) rfl ?_)
      refine nZ ?_
      exact ⟨false, (canon (fc vr (fc vr (fc vr (fc vr (fc vr (fn)))))) (sn)), h⟩
    replace h := h.2 hb5
    refine Vc.exit' (exB_self ?_)
    refine qZ (rZ ?_)
    refine asZ .niface rfl ?_
    refine nZ ?_
    refine Vc.ret' ?_
    refine res_tmp (v := .niface) rfl ?_
    refine res_nil ?_
    show Gives _ .niface _
    exact gives_out hrg (VW.refl _) (hQ _ h)
  refine rZ ?_
  refine mvZ (eL eRat fail) rfl ?_
  refine wZ rg (o_len td22 rfl ?_)
  refine mvZ (eL eRat repair) rfl ?_
  refine wZ rg (o_len td22 rfl ?_)
  refine wZ rg (o_neq rfl rfl ?_)
  refine mvZ (.bool ((fail.length : Int) != (repair.length : Int))) rfl ?_
  refine Wl.guard rfl rfl (fun hb8 => ?_) (fun hb8 => ?_)
  · replace h := h.2 hb8
    refine mvZ (eL eRat fail) rfl ?_
    refine Wl.guardT rfl rfl hb8 ?_
    refine wZ rg (o_len td22 rfl ?_)
    refine Wl.guardT rfl rfl hb8 ?_
    refine wZ rg (o_eql rfl rfl ?_)
    refine wZ rg (o_pickF rfl hb8 (v := .bool ((fail.length : Int) == 0)) rfl ?_)
    refine nZ ?_
    exact ⟨((fail.length : Int) == 0), (canon (fc vr (fc vr (fc vr (fn)))) (sn)), h⟩
  replace h := h.1 hb8
  refine Wl.guardF rfl rfl hb8 rfl ?_
  refine Wl.guardF rfl rfl hb8 rfl ?_
  refine wZ rg (o_pickT rfl hb8 (v := .bool true) rfl ?_)
  refine nZ ?_
  exact ⟨true, (canon (fc vr (fc vr (fc vr (fn)))) (sn)), h⟩
theorem product_Stationary_ctr {fail : List GRat} {repair : List GRat} {Q : List GRat → Option Int → Prop} {S : St} {R : AV → St → Prop} (h : product_Stationary_W fail repair Q) (hQ : ∀ r1 r2, Q r1 r2 → R (.tuple [eL eRat r1, eErr 107 r2]) S) :
    Ctr Try.prog 23 [eL eRat fail, eL eRat repair] S R := by
  unfold product_Stationary_W at h
  refine enterT Try.func23 rfl Try.ntmps23 Try.results23 (by kernel_rfl) (fun rg hrg => ?_)
  refine qZ (rZ ?_)
  refine asZ .nil rfl ?_
  refine asZ .niface rfl ?_
  refine nZ (qZ (qZ (rZ ?_)))
  refine mvZ (eL eRat fail) rfl ?_
  refine mvZ (eL eRat repair) rfl ?_
  refine wZ rg (o_call (us := [eL eRat fail, eL eRat repair]) rfl (vl' vr (vl' vr (vn))) (product_check_ctr h fun e h => ?_))
  refine asZ (eErr 107 e) rfl ?_
  refine nZ (qZ (rZ ?_))
  refine mvZ (eErr 107 e) rfl ?_
  refine wZ rg (o_isnon td31 (E := 107) rfl rfl rfl ?_)
  refine nZ ?_
  refine Vc.cond' rfl (fun hb => ?_) (fun hb => ?_)
  · replace h := h.1 hb
    refine qZ (rZ ?_)
    refine mvZ (eErr 107 e) rfl ?_
    refine asZ .nil rfl ?_
    refine asZ (eErr 107 e) rfl ?_
    refine nZ ?_
    refine Vc.ret' ?_
    refine res_tmp (v := .nil) rfl ?_
    refine res_tmp (v := eErr 107 e) rfl ?_
    refine res_nil ?_
    show Gives _ (.tuple [.nil, eErr 107 e]) _
    exact gives_out hrg (VW.tupL (vl' (VW.nilL) (vl' vr (vn)))) (hQ _ _ h)
  replace h := h.2 hb
  refine Vc.skip' ?_
  refine qZ (rZ ?_)
  refine wZ rg (o_call (us := [AV.int .i64 1]) rfl (vl' vr (vn)) (rational_Of_ctr h fun r h => ?_))
  refine wZ rg (o_bslice td22 ok27 zav27 (es := [eRat r]) rfl (kk := 3) rfl rfl rfl rfl rfl rfl (fun g1 => ?_))
  refine asZ (.sl 3 rg 22 g1 0 ([r].length)) rfl ?_
  refine nZ (qZ (qZ (rZ ?_)))
  refine mvZ (eL eRat fail) rfl ?_
  refine wZ rg (o_len td22 rfl ?_)
  refine mvZ (.int .i64 0) rfl ?_
  refine nZ ?_
  refine Vc.blk ?_
  refine Vc.wk (canon_freeze (k := 22) (xs := List.map eRat [r]) rfl (es := [(0, eL eRat fail), (1, eL eRat repair), (7, eL eRat [r]), (24, .int .i64 (fail.length : Int)), (25, .int .i64 0)]) (fc vr (fc vr (fc (frz_full rfl) (fc vr (fc vr (fn)))))) (m := []) (sn)) ?_
  obtain ⟨I, μ, h0, hI⟩ := h
  refine Vc.loop' (σ := ((List GRat) × Int)) (fun y => I y) (fun y => μ y) (fun y => envOf [(0, eL eRat fail), (1, eL eRat repair), (7, eL eRat y.1), (24, .int .i64 (fail.length : Int)), (25, .int .i64 y.2)]) (fun y => stL S rg []) ([r], 0) (canon (fc vr (fc vr (fc vr (fc vr (fc vr (fn)))))) (sn)) h0 (fun y h => ?_)
  obtain ⟨out, x⟩ := y
  replace h := hI (out, x) h
  show Vc _ _ _ _ (envOf [(0, eL eRat fail), (1, eL eRat repair), (7, eL eRat out), (24, .int .i64 (fail.length : Int)), (25, .int .i64 x)]) (stL S rg [])
  refine qZ (rZ ?_)
  refine wZ rg (o_lss rfl rfl ?_)
  refine nZ (qZ ?_)
  refine Vc.cond' rfl (fun hb1 => ?_) (fun hb1 => ?_)
  · replace h := h.1 hb1
    refine Vc.skip' ?_
    refine qZ ?_
    refine Vc.blk ?_
    refine qZ (rZ ?_)
    refine mvZ (.int .i64 x) rfl ?_
    refine asZ (.int .i64 x) rfl ?_
    refine nZ (qZ ?_)
    have hg := h.1
    replace h := h.2
    have hg1 := h.1
    replace h := h.2
    obtain ⟨r1, r2, hc, h⟩ := h
    refine Vc.drawn' mixed rg (usOf [(8, pc (.tuple [eRat r1, eErr 107 r2]))]) (by kernel_rfl) ?_
    refine dP rfl rfl (o_move (v := eL eRat fail) rfl ?_)
    refine dP rfl rfl (o_move (v := .int .i64 x) rfl ?_)
    refine dP rfl rfl (o_idxL td22 sz27 (by decide) (fun _ => rfl) rfl rfl hg ?_)
    refine dP rfl rfl (o_loadIA sz27 (by decide) ag27 rfl rfl (v := eRat (at' fail x)) rfl ?_)
    refine dP rfl rfl (o_move (v := eL eRat repair) rfl ?_)
    refine dP rfl rfl (o_move (v := .int .i64 x) rfl ?_)
    refine dP rfl rfl (o_idxL td22 sz27 (by decide) (fun _ => rfl) rfl rfl hg1 ?_)
    refine dP rfl rfl (o_loadIA sz27 (by decide) ag27 rfl rfl (v := eRat (at' repair x)) rfl ?_)
    refine dC (vs := [eRat (at' fail x), eRat (at' repair x)]) rfl (vl' vr (vl' vr (vn))) (fun _ => product_Unavailable_ctr hc (fun _ _ hr => ⟨by rw [hr.1, hr.2], rfl⟩)) rfl ?_
    refine dP rfl rfl (o_move (v := .tuple [eRat r1, eErr 107 r2]) rfl ?_)
    refine dP rfl rfl (o_extract (v := eRat r1) rfl rfl rfl ?_)
    refine dP rfl rfl (o_extract (v := eErr 107 r2) rfl rfl rfl ?_)
    refine dL (E := ([], [(rg, 9)])) rfl rfl (by simp) (cfn) (o_alloc zav27 ok27 (kk := 3) rfl (fun g2 => ?_))
    refine dL (E := ([], [(rg, 9)])) rfl rfl (by simp) (cfo (by kernel_rfl) (cfn)) (o_storeB (atL (k := 9) rfl) sz27 (by decide) rfl (w := eRat r1) rfl rfl rfl (v := eRat r1) rfl setL ?_)
    refine dP rfl rfl (o_assign (v := eErr 107 r2) rfl ?_)
    refine dN ?_
    refine qZ (qZ (rZ ?_))
    refine mvZ (eErr 107 r2) rfl ?_
    refine wZ rg (o_isnon td31 (E := 107) rfl rfl rfl ?_)
    refine nZ ?_
    refine Vc.cond' rfl (fun hb2 => ?_) (fun hb2 => ?_)
    · replace h := h.1 hb2
      refine qZ (rZ ?_)
      refine mvZ (eErr 107 r2) rfl ?_
      refine asZ .nil rfl ?_
      refine asZ (eErr 107 r2) rfl ?_
      refine nZ ?_
      refine Vc.ret' ?_
      refine res_tmp (v := .nil) rfl ?_
      refine res_tmp (v := eErr 107 r2) rfl ?_
      refine res_nil ?_
      show Gives _ (.tuple [.nil, eErr 107 r2]) _
      exact gives_out hrg (VW.tupL (vl' (VW.nilL) (vl' vr (vn)))) (hQ _ _ h)
    replace h := h.2 hb2
    refine Vc.skip' ?_
    refine qZ (rZ ?_)
    refine asZ .nil rfl ?_
    refine asZ .nil rfl ?_
    refine nZ (qZ (qZ (rZ ?_)))
    refine mvZ (eL eRat out) rfl ?_
    refine wZ rg (o_len td22 rfl ?_)
    refine mvZ (.int .i64 0) rfl ?_
    refine nZ ?_
    refine Vc.blk ?_
    refine Vc.mat 11 62 3 rfl (by decide) (fun g3 => ?_)
    refine Vc.mat 12 54 3 rfl (by decide) (fun g4 => ?_)
    obtain ⟨I, μ, h0, hI⟩ := h
    refine Vc.loop' (σ := ((Int × (List GRat) × (List GRat)) × (Nat × Nat))) (fun y => I y.1) (fun y => μ y.1) (fun y => envOf [(0, eL eRat fail), (1, eL eRat repair), (9, .ptr rg 9 g2 0 0), (11, .sl 3 rg 62 y.2.2 0 y.1.2.2.length), (12, .sl 3 rg 54 y.2.1 0 y.1.2.1.length), (24, .int .i64 (fail.length : Int)), (25, .int .i64 x), (43, eL eRat out), (44, .int .i64 (out.length : Int)), (45, .int .i64 y.1.1)]) (fun y => stL S rg [(9, .arr 3 [eRat r1], g2), (54, .arr 3 (List.map eRat y.1.2.1), y.2.1), (62, .arr 3 (List.map eRat y.1.2.2), y.2.2)]) ((0, [], []), (g4, g3)) (canon (fc vr (fc vr (fc vr (fc (VW.slen (by first | rfl | omega | (simp only [go_sem] <;> omega))) (fc (VW.slen (by first | rfl | omega | (simp only [go_sem] <;> omega))) (fc vr (fc vr (fc vr (fc vr (fc vr (fn))))))))))) (sc rfl (sc rfl (sc rfl (sn))))) h0 (fun y h => ?_)
    obtain ⟨⟨x1, failed, works⟩, ⟨g5, g6⟩⟩ := y
    replace h := hI (x1, failed, works) h
    show Vc _ _ _ _ (envOf [(0, eL eRat fail), (1, eL eRat repair), (9, .ptr rg 9 g2 0 0), (11, .sl 3 rg 62 g6 0 works.length), (12, .sl 3 rg 54 g5 0 failed.length), (24, .int .i64 (fail.length : Int)), (25, .int .i64 x), (43, eL eRat out), (44, .int .i64 (out.length : Int)), (45, .int .i64 x1)]) (stL S rg [(9, .arr 3 [eRat r1], g2), (54, .arr 3 (List.map eRat failed), g5), (62, .arr 3 (List.map eRat works), g6)])
    refine qZ (rZ ?_)
    refine wZ rg (o_lss rfl rfl ?_)
    refine nZ (qZ ?_)
    refine Vc.cond' rfl (fun hb3 => ?_) (fun hb3 => ?_)
    · replace h := h.1 hb3
      refine Vc.skip' ?_
      refine qZ ?_
      refine Vc.blk ?_
      refine qZ (rZ ?_)
      refine wZ rg (o_idxL td22 sz27 (by decide) (fun _ => rfl) rfl rfl h.1 ?_)
      replace h := h.2
      refine wZ rg (o_loadIA sz27 (by decide) ag27 rfl rfl (v := eRat (at' out x1)) rfl ?_)
      refine wZ rg (o_alloc zav27 ok27 (kk := 3) rfl (fun g7 => ?_))
      refine wZ rg (o_storeB (atL (k := 14) rfl) sz27 (by decide) rfl (w := eRat (at' out x1)) rfl rfl rfl (v := eRat (at' out x1)) rfl setL ?_)
      refine nZ (qZ (rZ ?_))
      refine mvZ (.sl 3 rg 54 g5 0 failed.length) rfl ?_
      refine wZ rg (o_loadBA (atL (k := 14) rfl) sz27 (by decide) ag27 rfl rfl (v := eRat (at' out x1)) rfl ?_)
      refine wZ rg (o_loadBA (atL (k := 9) rfl) sz27 (by decide) ag27 rfl rfl (v := eRat r1) rfl ?_)
      refine wZ rg (o_call (us := [eRat (at' out x1), eRat r1]) rfl (vl' vr (vl' vr (vn))) (rational_Mul_ctr h fun r3 h => ?_))
      refine wZ rg (o_bslice td22 ok27 zav27 (es := [eRat r3]) rfl (kk := 3) rfl rfl rfl rfl rfl rfl (fun g8 => ?_))
      refine wZ rg (o_appR td22 bts27 ok27 zav27 (es := failed) (xs := [r3]) (enc := eRat) (atL (k := 54) rfl) (by first | rfl | omega | (simp only [go_sem] <;> omega)) (view_rowE (atL (k := 53) rfl) (by first | rfl | omega | (simp only [go_sem] <;> omega))) (kk := 3) rfl rfl (fun _ => rfl) (fun _ => rfl) h.1 rfl (fun _ => setL) (fun g9 => ?_))
      replace h := h.2
      refine asZ (.sl 3 rg 54 g9 0 ((failed ++ [r3]).length)) rfl ?_
      refine nZ ?_
      obtain ⟨r4, hc1, h⟩ := h
      obtain ⟨r5, hc2, h⟩ := h
      obtain ⟨r6, hc3, h⟩ := h
      have hg2 := h.1
      replace h := h.2
      refine Vc.drawn' mixed rg (usOf [(2, pc (eRat r4)), (4, pc (eRat r5)), (5, pc (eRat r6))]) (by kernel_rfl) ?_
      refine dP rfl rfl (o_move (v := .sl 3 rg 62 g6 0 works.length) rfl ?_)
      refine dL (E := ([(rg, 14)], [])) rfl rfl (by simp) (cfn) (o_loadBA (atL (k := 14) rfl) sz27 (by decide) ag27 rfl rfl (v := eRat (at' out x1)) rfl ?_)
      refine dC (vs := [AV.int .i64 1]) rfl (vl' vr (vn)) (fun _ => rational_Of_ctr hc1 (fun _ hr => ⟨by rw [hr], rfl⟩)) rfl ?_
      refine dL (E := ([(rg, 9)], [])) rfl rfl (by simp) (cfa (by simp [apartE]) (cfn)) (o_loadBA (atL (k := 9) rfl) sz27 (by decide) ag27 rfl rfl (v := eRat r1) rfl ?_)
      refine dC (vs := [eRat r4, eRat r1]) rfl (vl' vr (vl' vr (vn))) (fun _ => rational_Sub_ctr hc2 (fun _ hr => ⟨by rw [hr], rfl⟩)) rfl ?_
      refine dC (vs := [eRat (at' out x1), eRat r5]) rfl (vl' vr (vl' vr (vn))) (fun _ => rational_Mul_ctr hc3 (fun _ hr => ⟨by rw [hr], rfl⟩)) rfl ?_
      refine dL (E := ([], [(rg, 61)])) rfl rfl (by simp) (cfo (by kernel_rfl) (cfo (by kernel_rfl) (cfn))) (o_bslice td22 ok27 zav27 (es := [eRat r6]) rfl (kk := 3) rfl rfl rfl rfl rfl rfl (fun g10 => ?_))
      refine dL (E := ([(rg, 61)], [(rg, 62)])) rfl rfl (by simp) (cfo (by kernel_rfl) (cfo (by kernel_rfl) (cfo (by kernel_rfl) (cfn)))) (o_appR td22 bts27 ok27 zav27 (es := works) (xs := [r6]) (enc := eRat) (atL (k := 62) rfl) (by first | rfl | omega | (simp only [go_sem] <;> omega)) (view_rowE (atL (k := 61) rfl) (by first | rfl | omega | (simp only [go_sem] <;> omega))) (kk := 3) rfl rfl (fun _ => rfl) (fun _ => rfl) hg2 rfl (fun _ => setL) (fun g11 => ?_))
      refine dP rfl rfl (o_assign (v := .sl 3 rg 62 g11 0 ((works ++ [r6]).length)) rfl ?_)
      refine dN ?_
      refine rZ ?_
      refine wZ rg (o_addG rfl rfl h.1 ?_)
      replace h := h.2
      refine mvZ (.int .i64 (x1 + 1)) rfl ?_
      refine nZ ?_
      exact ⟨(((x1 + 1), (failed ++ [r3]), (works ++ [r6])), (g9, g11)), (canon (fc vr (fc vr (fc vr (fc vr (fc vr (fc vr (fc vr (fc vr (fc vr (fc vr (fn))))))))))) (sc rfl (sc rfl (sc rfl (sn))))), h⟩
    replace h := h.2 hb3
    refine Vc.exit' (exB_self ?_)
    refine rZ ?_
    refine mvZ (.sl 3 rg 62 g6 0 works.length) rfl ?_
    refine mvZ (.sl 3 rg 54 g5 0 failed.length) rfl ?_
    refine wZ rg (o_appR td22 bts27 ok27 zav27 (es := works) (xs := failed) (enc := eRat) (atL (k := 62) rfl) (by first | rfl | omega | (simp only [go_sem] <;> omega)) (view_rowE (atL (k := 54) rfl) (by first | rfl | omega | (simp only [go_sem] <;> omega))) (kk := 3) rfl rfl (fun _ => rfl) (fun _ => rfl) h.1 rfl (fun _ => setL) (fun g12 => ?_))
    replace h := h.2
    refine asZ (.sl 3 rg 62 g12 0 ((works ++ failed).length)) rfl ?_
    refine nZ (rZ ?_)
    refine wZ rg (o_addG rfl rfl h.1 ?_)
    replace h := h.2
    refine mvZ (.int .i64 (x + 1)) rfl ?_
    refine nZ ?_
    exact ⟨((works ++ failed), (x + 1)), (EWk.trans (canon_freeze (k := 62) (xs := List.map eRat (works ++ failed)) rfl (es := [(0, eL eRat fail), (1, eL eRat repair), (7, eL eRat (works ++ failed)), (24, .int .i64 (fail.length : Int)), (25, .int .i64 (x + 1))]) (fc vr (fc vr (fc (frz_full rfl) (fc vr (fc vr (fn)))))) (m := []) (sn)) (canon (fc vr (fc vr (fc vr (fc vr (fc vr (fn)))))) (sn))), h⟩
  replace h := h.2 hb1
  refine Vc.exit' (exB_self ?_)
  refine qZ (rZ ?_)
  refine mvZ (eL eRat out) rfl ?_
  refine asZ (eL eRat out) rfl ?_
  refine asZ .niface rfl ?_
  refine nZ ?_
  refine Vc.ret' ?_
  refine res_tmp (v := eL eRat out) rfl ?_
  refine res_tmp (v := .niface) rfl ?_
  refine res_nil ?_
  show Gives _ (.tuple [eL eRat out, .niface]) _
  exact gives_out hrg (VW.tupL (vl' vr (vl' vr (vn)))) (hQ _ _ h)
theorem product_components_ctr {dist : List GRat} {Q : Int → Option Int → Prop} {S : St} {R : AV → St → Prop} (h : product_components_W dist Q) (hQ : ∀ r1 r2, Q r1 r2 → R (.tuple [AV.int .i64 r1, eErr 107 r2]) S) :
    Ctr Try.prog 110 [eL eRat dist] S R := by
  unfold product_components_W at h
  refine enterT Try.func110 rfl Try.ntmps110 Try.results110 (by kernel_rfl) (fun rg hrg => ?_)
  refine qZ (rZ ?_)
  refine asZ (.int .i64 0) rfl ?_
  refine asZ .niface rfl ?_
  refine nZ (qZ (rZ ?_))
  refine asZ (.int .i64 1) rfl ?_
  refine nZ ?_
  obtain ⟨J, h, hJ⟩ := h
  refine Vc.join' (σ := (Int)) (fun y => J y) (fun y => envOf [(0, eL eRat dist), (4, .int .i64 y)]) (fun y => stL S rg []) (fun n h => ?_) ?_
  · replace h := hJ n h
    show Vc _ _ _ _ (envOf [(0, eL eRat dist), (4, .int .i64 n)]) (stL S rg [])
    refine qZ (qZ (rZ ?_))
    refine mvZ (.int .i64 n) rfl ?_
    refine wZ rg (o_gtr rfl rfl ?_)
    refine nZ ?_
    refine Vc.cond' rfl (fun hb => ?_) (fun hb => ?_)
    · replace h := h.1 hb
      refine qZ (rZ ?_)
      refine wZ rg (o_iface (by rw [td107]; trivial) (v := .int .i64 11) rfl ?_)
      refine asZ (.int .i64 0) rfl ?_
      refine asZ (.iface 107 (.int .i64 11)) rfl ?_
      refine nZ ?_
      refine Vc.ret' ?_
      refine res_tmp (v := .int .i64 0) rfl ?_
      refine res_tmp (v := .iface 107 (.int .i64 11)) rfl ?_
      refine res_nil ?_
      show Gives _ (.tuple [.int .i64 0, .iface 107 (.int .i64 11)]) _
      exact gives_out hrg (VW.tupL (vl' vr (vl' vr (vn)))) (hQ _ _ h)
    replace h := h.2 hb
    refine Vc.skip' ?_
    refine qZ (qZ (rZ ?_))
    refine mvZ (eL eRat dist) rfl ?_
    refine wZ rg (o_len td22 rfl ?_)
    refine mvZ (.int .i64 0) rfl ?_
    refine nZ ?_
    refine Vc.blk ?_
    obtain ⟨I, μ, h0, hI⟩ := h
    refine Vc.loop' (σ := (Int)) (fun y => I y) (fun y => μ y) (fun y => envOf [(4, .int .i64 n), (21, eL eRat dist), (22, .int .i64 (dist.length : Int)), (23, .int .i64 y)]) (fun y => stL S rg []) 0 (canon (fc vr (fc vr (fc vr (fc vr (fn))))) (sn)) h0 (fun x h => ?_)
    replace h := hI x h
    show Vc _ _ _ _ (envOf [(4, .int .i64 n), (21, eL eRat dist), (22, .int .i64 (dist.length : Int)), (23, .int .i64 x)]) (stL S rg [])
    refine qZ (rZ ?_)
    refine wZ rg (o_lss rfl rfl ?_)
    refine nZ (qZ ?_)
    refine Vc.cond' rfl (fun hb1 => ?_) (fun hb1 => ?_)
    · replace h := h.1 hb1
      refine Vc.skip' ?_
      refine qZ ?_
      refine Vc.blk ?_
      refine qZ (rZ ?_)
      refine wZ rg (o_idxL td22 sz27 (by decide) (fun _ => rfl) rfl rfl h.1 ?_)
      replace h := h.2
      refine wZ rg (o_loadIA sz27 (by decide) ag27 rfl rfl (v := eRat (at' dist x)) rfl ?_)
      refine wZ rg (o_alloc zav27 ok27 (kk := 3) rfl (fun g1 => ?_))
      refine wZ rg (o_storeB (atL (k := 6) rfl) sz27 (by decide) rfl (w := eRat (at' dist x)) rfl rfl rfl (v := eRat (at' dist x)) rfl setL ?_)
      refine nZ (qZ (rZ ?_))
      refine wZ rg (o_loadBA (atL (k := 6) rfl) sz27 (by decide) ag27 rfl rfl (v := eRat (at' dist x)) rfl ?_)
      refine wZ rg (o_call (us := [eRat (at' dist x)]) rfl (vl' vr (vn)) (rational_Valid_ctr h fun r h => ?_))
      refine wZ rg (o_not rfl ?_)
      refine nZ ?_
      refine Vc.cond' rfl (fun hb2 => ?_) (fun hb2 => ?_)
      · replace h := h.1 hb2
        refine qZ (rZ ?_)
        refine wZ rg (o_iface (by rw [td107]; trivial) (v := .int .i64 3) rfl ?_)
        refine asZ (.int .i64 0) rfl ?_
        refine asZ (.iface 107 (.int .i64 3)) rfl ?_
        refine nZ ?_
        refine Vc.ret' ?_
        refine res_tmp (v := .int .i64 0) rfl ?_
        refine res_tmp (v := .iface 107 (.int .i64 3)) rfl ?_
        refine res_nil ?_
        show Gives _ (.tuple [.int .i64 0, .iface 107 (.int .i64 3)]) _
        exact gives_out hrg (VW.tupL (vl' vr (vl' vr (vn)))) (hQ _ _ h)
      replace h := h.2 hb2
      refine Vc.skip' ?_
      refine rZ ?_
      refine wZ rg (o_addG rfl rfl h.1 ?_)
      replace h := h.2
      refine mvZ (.int .i64 (x + 1)) rfl ?_
      refine nZ ?_
      exact ⟨(x + 1), (canon (fc vr (fc vr (fc vr (fc vr (fn))))) (sn)), h⟩
    replace h := h.2 hb1
    refine Vc.exit' (exB_self ?_)
    refine qZ (rZ ?_)
    refine mvZ (.int .i64 n) rfl ?_
    refine asZ (.int .i64 n) rfl ?_
    refine asZ .niface rfl ?_
    refine nZ ?_
    refine Vc.ret' ?_
    refine res_tmp (v := .int .i64 n) rfl ?_
    refine res_tmp (v := .niface) rfl ?_
    refine res_nil ?_
    show Gives _ (.tuple [.int .i64 n, .niface]) _
    exact gives_out hrg (VW.tupL (vl' vr (vl' vr (vn)))) (hQ _ _ h)
  refine Vc.blk ?_
  obtain ⟨I, μ, h0, hI⟩ := h
  refine Vc.loop' (σ := (Int)) (fun y => I y) (fun y => μ y) (fun y => envOf [(0, eL eRat dist), (4, .int .i64 y)]) (fun y => stL S rg []) 1 (canon (fc vr (fc vr (fn))) (sn)) h0 (fun n1 h => ?_)
  replace h := hI n1 h
  show Vc _ _ _ _ (envOf [(0, eL eRat dist), (4, .int .i64 n1)]) (stL S rg [])
  refine qZ (qZ (rZ ?_))
  refine mvZ (.int .i64 n1) rfl ?_
  refine wZ rg (o_leq rfl rfl ?_)
  refine mvZ (.bool (decide (n1 ≤ 8))) rfl ?_
  refine Wl.guard rfl rfl (fun hb3 => ?_) (fun hb3 => ?_)
  · replace h := h.1 hb3
    refine mvZ (.int .i64 n1) rfl ?_
    refine Wl.guardT rfl rfl hb3 ?_
    refine wZ rg (o_shlG rfl rfl h.1 ?_)
    replace h := h.2
    refine Wl.guardT rfl rfl hb3 ?_
    refine mvZ (eL eRat dist) rfl ?_
    refine Wl.guardT rfl rfl hb3 ?_
    refine wZ rg (o_len td22 rfl ?_)
    refine Wl.guardT rfl rfl hb3 ?_
    refine wZ rg (o_neq rfl rfl ?_)
    refine wZ rg (o_pickT rfl hb3 (v := .bool ((1 * 2 ^ (Int.toNat n1)) != (dist.length : Int))) rfl ?_)
    refine nZ ?_
    refine Vc.cond' rfl (fun hb4 => ?_) (fun hb4 => ?_)
    · replace h := h.1 hb4
      refine Vc.skip' ?_
      refine Vc.blk ?_
      refine rZ ?_
      refine mvZ (.int .i64 n1) rfl ?_
      refine wZ rg (o_addG rfl rfl h.1 ?_)
      replace h := h.2
      refine asZ (.int .i64 (n1 + 1)) rfl ?_
      refine nZ ?_
      exact ⟨(n1 + 1), (canon (fc vr (fc vr (fn))) (sn)), h⟩
    replace h := h.2 hb4
    refine Vc.exit' (exB_self ?_)
    exact ⟨n1, (canon (fc vr (fc vr (fn))) (sn)), h⟩
  replace h := h.2 hb3
  refine Wl.guardF rfl rfl hb3 rfl ?_
  refine Wl.guardF rfl rfl hb3 rfl ?_
  refine Wl.guardF rfl rfl hb3 rfl ?_
  refine Wl.guardF rfl rfl hb3 rfl ?_
  refine wZ rg (o_pickF rfl hb3 (v := .bool false) rfl ?_)
  refine nZ ?_
  refine Vc.cond' rfl (fun hb => Bool.noConfusion hb) (fun _ => ?_)
  refine Vc.exit' (exB_self ?_)
  exact ⟨n1, (canon (fc vr (fc vr (fn))) (sn)), h⟩
theorem product_Marginal_ctr {dist : List GRat} {i : Int} {Q : GRat → Option Int → Prop} {S : St} {R : AV → St → Prop} (h : product_Marginal_W dist i Q) (hQ : ∀ r1 r2, Q r1 r2 → R (.tuple [eRat r1, eErr 107 r2]) S) :
    Ctr Try.prog 44 [eL eRat dist, AV.int .i64 i] S R := by
  unfold product_Marginal_W at h
  refine enterT Try.func44 rfl Try.ntmps44 Try.results44 (by kernel_rfl) (fun rg hrg => ?_)
  refine qZ (rZ ?_)
  refine wZ rg (o_alloc zav27 ok27 (kk := 3) rfl (fun g1 => ?_))
  refine asZ .niface rfl ?_
  refine nZ (qZ (rZ ?_))
  refine mvZ (eL eRat dist) rfl ?_
  refine wZ rg (o_call (us := [eL eRat dist]) rfl (vl' vr (vn)) (product_components_ctr h fun r r1 h => ?_))
  refine mvZ (.tuple [.int .i64 r, eErr 107 r1]) rfl ?_
  refine wZ rg (o_extract (v := .int .i64 r) rfl rfl rfl ?_)
  refine wZ rg (o_extract (v := eErr 107 r1) rfl rfl rfl ?_)
  refine asZ (.int .i64 r) rfl ?_
  refine asZ (eErr 107 r1) rfl ?_
  refine nZ (qZ (qZ (rZ ?_)))
  refine mvZ (eErr 107 r1) rfl ?_
  refine wZ rg (o_isnon td31 (E := 107) rfl rfl rfl ?_)
  refine nZ ?_
  refine Vc.cond' rfl (fun hb => ?_) (fun hb => ?_)
  · replace h := h.1 hb
    refine qZ (rZ ?_)
    refine wZ rg (o_build td27 zav27 bok27 szs27 sz27 (ps := []) rfl rfl (v := .agg [.bool false, .nil, .nil]) rfl ?_)
    refine mvZ (eErr 107 r1) rfl ?_
    refine wZ rg (o_storeB (atL (k := 4) rfl) sz27 (by decide) rfl (w := .agg [.bool false, .nil, .nil]) rfl rfl rfl (v := .agg [.bool false, .nil, .nil]) rfl setL ?_)
    refine asZ (eErr 107 r1) rfl ?_
    refine nZ ?_
    refine Vc.ret' ?_
    refine res_cellA (atL (k := 4) rfl) sz27 (by decide) ag27 rfl rfl (v := .agg [.bool false, .nil, .nil]) rfl ?_
    refine res_tmp (v := eErr 107 r1) rfl ?_
    refine res_nil ?_
    show Gives _ (.tuple [.agg [.bool false, .nil, .nil], eErr 107 r1]) _
    exact gives_out hrg (VW.tupL (vl' (VW.aggL (vl' vr (vl' (VW.nilL) (vl' (VW.nilL) (vn))))) (vl' vr (vn)))) (hQ _ _ h)
  replace h := h.2 hb
  refine Vc.skip' ?_
  refine qZ ?_
  obtain ⟨J, h, hJ⟩ := h
  refine Vc.join' (σ := ((Bool) × (Nat))) (fun y => J y.1) (fun y => envOf [(0, eL eRat dist), (1, .int .i64 i), (4, .ptr rg 4 y.2 0 0), (26, .bool y.1)]) (fun y => stL S rg [(4, .arr 3 [.agg [.bool false, .nil, .nil]], y.2)]) (fun y h => ?_) ?_
  · obtain ⟨x, g2⟩ := y
    replace h := hJ x h
    show Vc _ _ _ _ (envOf [(0, eL eRat dist), (1, .int .i64 i), (4, .ptr rg 4 g2 0 0), (26, .bool x)]) (stL S rg [(4, .arr 3 [.agg [.bool false, .nil, .nil]], g2)])
    refine Vc.cond' rfl (fun hb1 => ?_) (fun hb1 => ?_)
    · replace h := h.1 hb1
      refine qZ (rZ ?_)
      refine wZ rg (o_build td27 zav27 bok27 szs27 sz27 (ps := []) rfl rfl (v := .agg [.bool false, .nil, .nil]) rfl ?_)
      refine wZ rg (o_iface (by rw [td107]; trivial) (v := .int .i64 10) rfl ?_)
      refine wZ rg (o_storeB (atL (k := 4) rfl) sz27 (by decide) rfl (w := .agg [.bool false, .nil, .nil]) rfl rfl rfl (v := .agg [.bool false, .nil, .nil]) rfl setL ?_)
      refine asZ (.iface 107 (.int .i64 10)) rfl ?_
      refine nZ ?_
      refine Vc.ret' ?_
      refine res_cellA (atL (k := 4) rfl) sz27 (by decide) ag27 rfl rfl (v := .agg [.bool false, .nil, .nil]) rfl ?_
      refine res_tmp (v := .iface 107 (.int .i64 10)) rfl ?_
      refine res_nil ?_
      show Gives _ (.tuple [.agg [.bool false, .nil, .nil], .iface 107 (.int .i64 10)]) _
      exact gives_out hrg (VW.tupL (vl' (VW.aggL (vl' vr (vl' (VW.nilL) (vl' (VW.nilL) (vn))))) (vl' vr (vn)))) (hQ _ _ h)
    replace h := h.2 hb1
    refine Vc.skip' ?_
    refine qZ (rZ ?_)
    refine wZ rg (o_build td27 zav27 bok27 szs27 sz27 (ps := []) rfl rfl (v := .agg [.bool false, .nil, .nil]) rfl ?_)
    refine wZ rg (o_alloc zav27 ok27 (kk := 3) rfl (fun g3 => ?_))
    refine wZ rg (o_storeB (atL (k := 8) rfl) sz27 (by decide) rfl (w := .agg [.bool false, .nil, .nil]) rfl rfl rfl (v := .agg [.bool false, .nil, .nil]) rfl setL ?_)
    refine nZ (qZ (qZ (rZ ?_)))
    refine mvZ (eL eRat dist) rfl ?_
    refine wZ rg (o_len td22 rfl ?_)
    refine mvZ (.int .i64 0) rfl ?_
    refine nZ ?_
    refine Vc.blk ?_
    obtain ⟨I, μ, h0, hI⟩ := h
    refine Vc.loop' (σ := (Int × GRat)) (fun y => I y) (fun y => μ y) (fun y => envOf [(1, .int .i64 i), (4, .ptr rg 4 g2 0 0), (8, .ptr rg 8 g3 0 0), (30, eL eRat dist), (31, .int .i64 (dist.length : Int)), (32, .int .i64 y.1)]) (fun y => stL S rg [(4, .arr 3 [.agg [.bool false, .nil, .nil]], g2), (8, .arr 3 [eRat y.2], g3)]) (0, (⟨false, [], []⟩ : GRat)) (EWk.trans (EWk.ow (k := 8) (o' := .arr 3 [eRat (⟨false, [], []⟩ : GRat)]) rfl (OW.one (VWL.vwc (vl' vr (vl' (VW.nilL) (vl' (VW.nilL) (vn))))))) (canon (fc vr (fc vr (fc vr (fc vr (fc vr (fc vr (fn))))))) (sc rfl (sc rfl (sn))))) h0 (fun y h => ?_)
    obtain ⟨x1, x2⟩ := y
    replace h := hI (x1, x2) h
    show Vc _ _ _ _ (envOf [(1, .int .i64 i), (4, .ptr rg 4 g2 0 0), (8, .ptr rg 8 g3 0 0), (30, eL eRat dist), (31, .int .i64 (dist.length : Int)), (32, .int .i64 x1)]) (stL S rg [(4, .arr 3 [.agg [.bool false, .nil, .nil]], g2), (8, .arr 3 [eRat x2], g3)])
    refine qZ (rZ ?_)
    refine wZ rg (o_lss rfl rfl ?_)
    refine nZ (qZ ?_)
    refine Vc.cond' rfl (fun hb2 => ?_) (fun hb2 => ?_)
    · replace h := h.1 hb2
      refine Vc.skip' ?_
      refine qZ ?_
      refine Vc.blk ?_
      refine qZ (rZ ?_)
      refine mvZ (.int .i64 x1) rfl ?_
      refine wZ rg (o_idxL td22 sz27 (by decide) (fun _ => rfl) rfl rfl h.1 ?_)
      replace h := h.2
      refine wZ rg (o_loadIA sz27 (by decide) ag27 rfl rfl (v := eRat (at' dist x1)) rfl ?_)
      refine wZ rg (o_alloc zav27 ok27 (kk := 3) rfl (fun g4 => ?_))
      refine asZ (.int .i64 x1) rfl ?_
      refine wZ rg (o_storeB (atL (k := 10) rfl) sz27 (by decide) rfl (w := eRat (at' dist x1)) rfl rfl rfl (v := eRat (at' dist x1)) rfl setL ?_)
      refine nZ (qZ (rZ ?_))
      refine mvZ (.int .i64 x1) rfl ?_
      refine mvZ (.int .i64 i) rfl ?_
      refine wZ rg (o_shr rfl rfl h.1 ?_)
      replace h := h.2
      refine wZ rg (o_and rfl rfl ?_)
      refine wZ rg (o_eql rfl rfl ?_)
      refine nZ ?_
      refine Vc.cond' rfl (fun hb3 => ?_) (fun hb3 => ?_)
      · replace h := h.1 hb3
        refine rZ ?_
        refine wZ rg (o_loadBA (atL (k := 8) rfl) sz27 (by decide) ag27 rfl rfl (v := eRat x2) rfl ?_)
        refine wZ rg (o_loadBA (atL (k := 10) rfl) sz27 (by decide) ag27 rfl rfl (v := eRat (at' dist x1)) rfl ?_)
        refine wZ rg (o_call (us := [eRat x2, eRat (at' dist x1)]) rfl (vl' vr (vl' vr (vn))) (rational_Add_ctr h fun r2 h => ?_))
        refine wZ rg (o_storeB (atL (k := 8) rfl) sz27 (by decide) rfl (w := eRat r2) rfl rfl rfl (v := eRat r2) rfl setL ?_)
        refine nZ (rZ ?_)
        refine wZ rg (o_addG rfl rfl h.1 ?_)
        replace h := h.2
        refine mvZ (.int .i64 (x1 + 1)) rfl ?_
        refine nZ ?_
        exact ⟨((x1 + 1), r2), (canon (fc vr (fc vr (fc vr (fc vr (fc vr (fc vr (fn))))))) (sc rfl (sc rfl (sn)))), h⟩
      replace h := h.2 hb3
      refine Vc.skip' ?_
      refine rZ ?_
      refine wZ rg (o_addG rfl rfl h.1 ?_)
      replace h := h.2
      refine mvZ (.int .i64 (x1 + 1)) rfl ?_
      refine nZ ?_
      exact ⟨((x1 + 1), x2), (canon (fc vr (fc vr (fc vr (fc vr (fc vr (fc vr (fn))))))) (sc rfl (sc rfl (sn)))), h⟩
    replace h := h.2 hb2
    refine Vc.exit' (exB_self ?_)
    refine qZ (rZ ?_)
    refine wZ rg (o_loadBA (atL (k := 8) rfl) sz27 (by decide) ag27 rfl rfl (v := eRat x2) rfl ?_)
    refine wZ rg (o_storeB (atL (k := 4) rfl) sz27 (by decide) rfl (w := eRat x2) rfl rfl rfl (v := eRat x2) rfl setL ?_)
    refine asZ .niface rfl ?_
    refine nZ ?_
    refine Vc.ret' ?_
    refine res_cellA (atL (k := 4) rfl) sz27 (by decide) ag27 rfl rfl (v := eRat x2) rfl ?_
    refine res_tmp (v := .niface) rfl ?_
    refine res_nil ?_
    show Gives _ (.tuple [eRat x2, .niface]) _
    exact gives_out hrg (VW.tupL (vl' vr (vl' vr (vn)))) (hQ _ _ h)
  refine rZ ?_
  refine mvZ (.int .i64 i) rfl ?_
  refine wZ rg (o_lss rfl rfl ?_)
  refine mvZ (.bool (decide (i < 0))) rfl ?_
  refine Wl.guard rfl rfl (fun hb4 => ?_) (fun hb4 => ?_)
  · replace h := h.2 hb4
    refine mvZ (.int .i64 i) rfl ?_
    refine Wl.guardT rfl rfl hb4 ?_
    refine mvZ (.int .i64 r) rfl ?_
    refine Wl.guardT rfl rfl hb4 ?_
    refine wZ rg (o_geq rfl rfl ?_)
    refine wZ rg (o_pickF rfl hb4 (v := .bool (decide (r ≤ i))) rfl ?_)
    refine nZ ?_
    exact ⟨((decide (r ≤ i)), g1), (canon (fc vr (fc vr (fc vr (fc vr (fn))))) (sc rfl (sn))), h⟩
  replace h := h.1 hb4
  refine Wl.guardF rfl rfl hb4 rfl ?_
  refine Wl.guardF rfl rfl hb4 rfl ?_
  refine wZ rg (o_pickT rfl hb4 (v := .bool true) rfl ?_)
  refine nZ ?_
  exact ⟨(true, g1), (canon (fc vr (fc vr (fc vr (fc vr (fn))))) (sc rfl (sn))), h⟩
end Go.Proofs.Ytonbnfgknijpoaa
