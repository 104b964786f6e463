/- Walks of functions. Conditions: none. -/
import Derived.Test.YtonbnfgknijpoaaWR50
import Derived.Test.YtonbnfgknijpoaaGgTy
import Derived.Test.YtonbnfgknijpoaaKBd
import Derived.Test.YtonbnfgknijpoaaKBe
import Derived.Test.YtonbnfgknijpoaaKBf
namespace Go.Proofs.Ytonbnfgknijpoaa
open Go.Gg
set_option maxRecDepth 100000
theorem ref50_rate_ctr {x : GRat} {Q : Bool → Prop} {S : St} {R : AV → St → Prop} (h : ref50_rate_W x Q) (hQ : ∀ r1, Q r1 → R (AV.bool r1) S) :
    Ctr Try.prog 91 [eRat x] S R := by
  unfold ref50_rate_W at h
  refine enterT Try.func91 rfl Try.ntmps91 Try.results91 (by kernel_rfl) (fun rg hrg => ?_)
  refine qZ (rZ ?_)
  refine wZ rg (o_box (v := eRat x) rfl rfl (kk := 3) rfl (by decide) (fun g1 => ?_))
  refine asZ (.bool false) rfl ?_
  refine nZ (qZ (rZ ?_))
  refine wZ rg (o_loadBA (atL (k := 1) rfl) sz27 (by decide) ag27 rfl rfl (v := eRat x) rfl ?_)
  refine wZ rg (o_call (us := [eRat x]) rfl (vl' vr (vn)) (ref02_Valid_ctr h fun r h => ?_))
  refine mvZ (.bool r) rfl ?_
  refine Wl.guard rfl rfl (fun hb => ?_) (fun hb => ?_)
  · replace h := h.1 hb
    refine wZ rg (o_loadBA (atL (k := 1) rfl) sz27 (by decide) ag27 rfl rfl (v := eRat x) rfl ?_)
    refine Wl.guardT rfl rfl hb ?_
    refine wZ rg (o_call (us := [eRat x]) rfl (vl' vr (vn)) (ref02_Sign_ctr h fun r1 h => ?_))
    refine Wl.guardT rfl rfl hb ?_
    refine wZ rg (o_geq rfl rfl ?_)
    refine wZ rg (o_pickT rfl hb (v := .bool (decide (0 ≤ r1))) rfl ?_)
    refine asZ (.bool (decide (0 ≤ r1))) rfl ?_
    refine nZ ?_
    refine Vc.ret' ?_
    refine res_tmp (v := .bool (decide (0 ≤ r1))) rfl ?_
    refine res_nil ?_
    show Gives _ (.bool (decide (0 ≤ r1))) _
    exact gives_out hrg (VW.refl _) (hQ _ h)
  replace h := h.2 hb
  refine Wl.guardF rfl rfl hb rfl ?_
  refine Wl.guardF rfl rfl hb rfl ?_
  refine wZ rg (o_pickF rfl hb (v := .bool false) rfl ?_)
  refine asZ (.bool false) rfl ?_
  refine nZ ?_
  refine Vc.ret' ?_
  refine res_tmp (v := .bool false) rfl ?_
  refine res_nil ?_
  show Gives _ (.bool false) _
  exact gives_out hrg (VW.refl _) (hQ _ h)
theorem ref50_Unavailable_ctr {fail : GRat} {repair : GRat} {Q : GRat → Int → Prop} {S : St} {R : AV → St → Prop} (h : ref50_Unavailable_W fail repair Q) (hQ : ∀ r1 r2, Q r1 r2 → R (.tuple [eRat r1, AV.int .i64 r2]) S) :
    Ctr Try.prog 26 [eRat fail, eRat repair] S R := by
  unfold ref50_Unavailable_W at h
  refine enterT Try.func26 rfl Try.ntmps26 Try.results26 (by kernel_rfl) (fun rg hrg => ?_)
  refine qZ (rZ ?_)
  refine wZ rg (o_box (v := eRat fail) rfl rfl (kk := 3) rfl (by decide) (fun g1 => ?_))
  refine wZ rg (o_box (v := eRat repair) rfl rfl (kk := 3) rfl (by decide) (fun g2 => ?_))
  refine wZ rg (o_alloc zav27 ok27 (kk := 3) rfl (fun g3 => ?_))
  refine asZ (.int .i64 0) rfl ?_
  refine nZ (qZ ?_)
  obtain ⟨J, h, hJ⟩ := h
  refine Vc.join' (σ := ((Bool) × (Nat × Nat × Nat))) (fun y => J y.1) (fun y => envOf [(2, .ptr rg 2 y.2.1 0 0), (3, .ptr rg 3 y.2.2.1 0 0), (4, .ptr rg 4 y.2.2.2 0 0), (13, .bool y.1)]) (fun y => stL S rg [(2, .arr 3 [eRat fail], y.2.1), (3, .arr 3 [eRat repair], y.2.2.1), (4, .arr 3 [.agg [.bool false, .nil, .nil]], y.2.2.2)]) (fun y h => ?_) ?_
  · obtain ⟨x, ⟨g4, g5, g6⟩⟩ := y
    replace h := hJ x h
    show Vc _ _ _ _ (envOf [(2, .ptr rg 2 g4 0 0), (3, .ptr rg 3 g5 0 0), (4, .ptr rg 4 g6 0 0), (13, .bool x)]) (stL S rg [(2, .arr 3 [eRat fail], g4), (3, .arr 3 [eRat repair], g5), (4, .arr 3 [.agg [.bool false, .nil, .nil]], g6)])
    refine Vc.cond' rfl (fun hb => ?_) (fun hb => ?_)
    · replace h := h.1 hb
      refine qZ (rZ ?_)
      refine wZ rg (o_build td27 zav27 bok27 szs27 sz27 (ps := []) rfl rfl (v := .agg [.bool false, .nil, .nil]) rfl ?_)
      refine wZ rg (o_storeB (atL (k := 4) rfl) sz27 (by decide) rfl (w := .agg [.bool false, .nil, .nil]) rfl rfl rfl (v := .agg [.bool false, .nil, .nil]) rfl setL ?_)
      refine asZ (.int .i64 3) rfl ?_
      refine nZ ?_
      refine Vc.ret' ?_
      refine res_cellA (atL (k := 4) rfl) sz27 (by decide) ag27 rfl rfl (v := .agg [.bool false, .nil, .nil]) rfl ?_
      refine res_tmp (v := .int .i64 3) rfl ?_
      refine res_nil ?_
      show Gives _ (.tuple [.agg [.bool false, .nil, .nil], .int .i64 3]) _
      exact gives_out hrg (VW.tupL (vl' (VW.aggL (vl' vr (vl' (VW.nilL) (vl' (VW.nilL) (vn))))) (vl' vr (vn)))) (hQ _ _ h)
    replace h := h.2 hb
    refine Vc.skip' ?_
    refine qZ ?_
    obtain ⟨r, hc, h⟩ := h
    obtain ⟨r1, r2, hc1, h⟩ := h
    refine Vc.drawn' mixed rg (usOf [(3, pc (eRat r)), (4, pc (.tuple [eRat r1, .int .i64 r2]))]) (by kernel_rfl) ?_
    refine dL (E := ([(rg, 2)], [])) rfl rfl (by simp) (cfn) (o_loadBA (atL (k := 2) rfl) sz27 (by decide) ag27 rfl rfl (v := eRat fail) rfl ?_)
    refine dL (E := ([(rg, 2)], [])) rfl rfl (by simp) (cfa (by simp [apartE]) (cfn)) (o_loadBA (atL (k := 2) rfl) sz27 (by decide) ag27 rfl rfl (v := eRat fail) rfl ?_)
    refine dL (E := ([(rg, 3)], [])) rfl rfl (by simp) (cfa (by simp [apartE]) (cfa (by simp [apartE]) (cfn))) (o_loadBA (atL (k := 3) rfl) sz27 (by decide) ag27 rfl rfl (v := eRat repair) rfl ?_)
    refine dC (vs := [eRat fail, eRat repair]) rfl (vl' vr (vl' vr (vn))) (fun _ => ref02_Add_ctr hc (fun _ hr => ⟨by rw [hr], rfl⟩)) rfl ?_
    refine dC (vs := [eRat fail, eRat r]) rfl (vl' vr (vl' vr (vn))) (fun _ => ref02_Div_ctr hc1 (fun _ _ hr => ⟨by rw [hr.1, hr.2], rfl⟩)) rfl ?_
    refine dP rfl rfl (o_extract (v := eRat r1) rfl rfl rfl ?_)
    refine dP rfl rfl (o_extract (v := .int .i64 r2) rfl rfl rfl ?_)
    refine dL (E := ([], [(rg, 4)])) rfl rfl (by simp) (cfo (by kernel_rfl) (cfo (by kernel_rfl) (cfo (by kernel_rfl) (cfn)))) (o_storeB (atL (k := 4) rfl) sz27 (by decide) rfl (w := eRat r1) rfl rfl rfl (v := eRat r1) rfl setL ?_)
    refine dP rfl rfl (o_assign (v := .int .i64 r2) rfl ?_)
    refine dN ?_
    refine Vc.ret' ?_
    refine res_cellA (atL (k := 4) rfl) sz27 (by decide) ag27 rfl rfl (v := eRat r1) rfl ?_
    refine res_tmp (v := .int .i64 r2) rfl ?_
    refine res_nil ?_
    show Gives _ (.tuple [eRat r1, .int .i64 r2]) _
    exact gives_out hrg (VW.tupL (vl' vr (vl' vr (vn)))) (hQ _ _ h)
  refine rZ ?_
  refine wZ rg (o_loadBA (atL (k := 2) rfl) sz27 (by decide) ag27 rfl rfl (v := eRat fail) rfl ?_)
  refine wZ rg (o_call (us := [eRat fail]) rfl (vl' vr (vn)) (ref50_rate_ctr h fun r3 h => ?_))
  refine wZ rg (o_not rfl ?_)
  refine mvZ (.bool (!r3)) rfl ?_
  refine Wl.guard rfl rfl (fun hb1 => ?_) (fun hb1 => ?_)
  · replace h := h.2 hb1
    refine wZ rg (o_loadBA (atL (k := 3) rfl) sz27 (by decide) ag27 rfl rfl (v := eRat repair) rfl ?_)
    refine Wl.guardT rfl rfl hb1 ?_
    refine wZ rg (o_call (us := [eRat repair]) rfl (vl' vr (vn)) (ref50_rate_ctr h fun r4 h => ?_))
    refine Wl.guardT rfl rfl hb1 ?_
    refine wZ rg (o_not rfl ?_)
    refine wZ rg (o_pickF rfl hb1 (v := .bool (!r4)) rfl ?_)
    refine nZ ?_
    exact ⟨((!r4), (g1, g2, g3)), (canon (fc vr (fc vr (fc vr (fc vr (fn))))) (sc rfl (sc rfl (sc rfl (sn))))), h⟩
  replace h := h.1 hb1
  refine Wl.guardF rfl rfl hb1 rfl ?_
  refine Wl.guardF rfl rfl hb1 rfl ?_
  refine wZ rg (o_pickT rfl hb1 (v := .bool true) rfl ?_)
  refine nZ ?_
  exact ⟨(true, (g1, g2, g3)), (canon (fc vr (fc vr (fc vr (fc vr (fn))))) (sc rfl (sc rfl (sc rfl (sn))))), h⟩
theorem ref50_Lists_ctr {fail : List GRat} {repair : List GRat} {Q : Int → Prop} {S : St} {R : AV → St → Prop} (h : ref50_Lists_W fail repair Q) (hQ : ∀ r1, Q r1 → R (AV.int .i64 r1) S) :
    Ctr Try.prog 86 [eL eRat fail, eL eRat repair] S R := by
  unfold ref50_Lists_W at h
  refine enterT Try.func86 rfl Try.ntmps86 Try.results86 (by kernel_rfl) (fun rg hrg => ?_)
  refine qZ (rZ ?_)
  refine asZ (.int .i64 0) rfl ?_
  refine nZ (qZ (qZ (rZ ?_)))
  refine mvZ (eL eRat fail) rfl ?_
  refine wZ rg (o_len td22 rfl ?_)
  refine mvZ (eL eRat repair) rfl ?_
  refine wZ rg (o_len td22 rfl ?_)
  refine wZ rg (o_neq rfl rfl ?_)
  refine mvZ (.bool ((fail.length : Int) != (repair.length : Int))) rfl ?_
  refine Wl.guard rfl rfl (fun hb => ?_) (fun hb => ?_)
  · replace h := h.2 hb
    refine mvZ (eL eRat fail) rfl ?_
    refine Wl.guardT rfl rfl hb ?_
    refine wZ rg (o_len td22 rfl ?_)
    refine Wl.guardT rfl rfl hb ?_
    refine wZ rg (o_eql rfl rfl ?_)
    refine wZ rg (o_pickF rfl hb (v := .bool ((fail.length : Int) == 0)) rfl ?_)
    refine nZ ?_
    refine Vc.cond' rfl (fun hb1 => ?_) (fun hb1 => ?_)
    · replace h := h.1 hb1
      refine qZ (rZ ?_)
      refine asZ (.int .i64 11) rfl ?_
      refine nZ ?_
      refine Vc.ret' ?_
      refine res_tmp (v := .int .i64 11) rfl ?_
      refine res_nil ?_
      show Gives _ (.int .i64 11) _
      exact gives_out hrg (VW.refl _) (hQ _ h)
    replace h := h.2 hb1
    refine Vc.skip' ?_
    refine qZ (qZ (rZ ?_))
    refine mvZ (eL eRat fail) rfl ?_
    refine wZ rg (o_len td22 rfl ?_)
    refine wZ rg (o_gtr rfl rfl ?_)
    refine nZ ?_
    refine Vc.cond' rfl (fun hb2 => ?_) (fun hb2 => ?_)
    · replace h := h.1 hb2
      refine qZ (rZ ?_)
      refine asZ (.int .i64 4) rfl ?_
      refine nZ ?_
      refine Vc.ret' ?_
      refine res_tmp (v := .int .i64 4) rfl ?_
      refine res_nil ?_
      show Gives _ (.int .i64 4) _
      exact gives_out hrg (VW.refl _) (hQ _ h)
    replace h := h.2 hb2
    refine Vc.skip' ?_
    refine qZ (qZ (rZ ?_))
    refine mvZ (eL eRat fail) rfl ?_
    refine wZ rg (o_len td22 rfl ?_)
    refine mvZ (.int .i64 0) rfl ?_
    refine nZ ?_
    refine Vc.blk ?_
    obtain ⟨I, μ, h0, hI⟩ := h
    refine Vc.loop' (σ := (Int)) (fun y => I y) (fun y => μ y) (fun y => envOf [(0, eL eRat fail), (1, eL eRat repair), (23, .int .i64 (fail.length : Int)), (24, .int .i64 y)]) (fun y => stL S rg []) 0 (canon (fc vr (fc vr (fc vr (fc vr (fn))))) (sn)) h0 (fun x h => ?_)
    replace h := hI x h
    show Vc _ _ _ _ (envOf [(0, eL eRat fail), (1, eL eRat repair), (23, .int .i64 (fail.length : Int)), (24, .int .i64 x)]) (stL S rg [])
    refine qZ (rZ ?_)
    refine wZ rg (o_lss rfl rfl ?_)
    refine nZ (qZ ?_)
    refine Vc.cond' rfl (fun hb3 => ?_) (fun hb3 => ?_)
    · replace h := h.1 hb3
      refine Vc.skip' ?_
      refine qZ ?_
      refine Vc.blk ?_
      refine qZ (rZ ?_)
      refine mvZ (.int .i64 x) rfl ?_
      refine asZ (.int .i64 x) rfl ?_
      refine nZ (qZ (rZ ?_))
      refine mvZ (eL eRat fail) rfl ?_
      refine mvZ (.int .i64 x) rfl ?_
      refine wZ rg (o_idxL td22 sz27 (by decide) (fun _ => rfl) rfl rfl h.1 ?_)
      replace h := h.2
      refine wZ rg (o_loadIA sz27 (by decide) ag27 rfl rfl (v := eRat (at' fail x)) rfl ?_)
      refine wZ rg (o_call (us := [eRat (at' fail x)]) rfl (vl' vr (vn)) (ref50_rate_ctr h fun r h => ?_))
      refine wZ rg (o_not rfl ?_)
      refine mvZ (.bool (!r)) rfl ?_
      refine Wl.guard rfl rfl (fun hb4 => ?_) (fun hb4 => ?_)
      · replace h := h.2 hb4
        refine mvZ (eL eRat repair) rfl ?_
        refine Wl.guardT rfl rfl hb4 ?_
        refine mvZ (.int .i64 x) rfl ?_
        refine Wl.guardT rfl rfl hb4 ?_
        refine wZ rg (o_idxL td22 sz27 (by decide) (fun _ => rfl) rfl rfl h.1 ?_)
        replace h := h.2
        refine Wl.guardT rfl rfl hb4 ?_
        refine wZ rg (o_loadIA sz27 (by decide) ag27 rfl rfl (v := eRat (at' repair x)) rfl ?_)
        refine Wl.guardT rfl rfl hb4 ?_
        refine wZ rg (o_call (us := [eRat (at' repair x)]) rfl (vl' vr (vn)) (ref50_rate_ctr h fun r1 h => ?_))
        refine Wl.guardT rfl rfl hb4 ?_
        refine wZ rg (o_not rfl ?_)
        refine wZ rg (o_pickF rfl hb4 (v := .bool (!r1)) rfl ?_)
        refine nZ ?_
        refine Vc.cond' rfl (fun hb5 => ?_) (fun hb5 => ?_)
        · replace h := h.1 hb5
          refine qZ (rZ ?_)
          refine asZ (.int .i64 3) rfl ?_
          refine nZ ?_
          refine Vc.ret' ?_
          refine res_tmp (v := .int .i64 3) rfl ?_
          refine res_nil ?_
          show Gives _ (.int .i64 3) _
          exact gives_out hrg (VW.refl _) (hQ _ h)
        replace h := h.2 hb5
        refine Vc.skip' ?_
        refine rZ ?_
        refine wZ rg (o_addG rfl rfl h.1 ?_)
        replace h := h.2
        refine mvZ (.int .i64 (x + 1)) rfl ?_
        refine nZ ?_
        exact ⟨(x + 1), (canon (fc vr (fc vr (fc vr (fc vr (fn))))) (sn)), h⟩
      replace h := h.1 hb4
      refine Wl.guardF rfl rfl hb4 rfl ?_
      refine Wl.guardF rfl rfl hb4 rfl ?_
      refine Wl.guardF rfl rfl hb4 rfl ?_
      refine Wl.guardF rfl rfl hb4 rfl ?_
      refine Wl.guardF rfl rfl hb4 rfl ?_
      refine wZ rg (o_pickT rfl hb4 (v := .bool true) rfl ?_)
      refine nZ ?_
      refine Vc.cond' rfl (fun _ => ?_) (fun hb => Bool.noConfusion hb)
      refine qZ (rZ ?_)
      refine asZ (.int .i64 3) rfl ?_
      refine nZ ?_
      refine Vc.ret' ?_
      refine res_tmp (v := .int .i64 3) rfl ?_
      refine res_nil ?_
      show Gives _ (.int .i64 3) _
      exact gives_out hrg (VW.refl _) (hQ _ h)
    replace h := h.2 hb3
    refine Vc.exit' (exB_self ?_)
    refine qZ (qZ (rZ ?_))
    refine mvZ (eL eRat fail) rfl ?_
    refine wZ rg (o_len td22 rfl ?_)
    refine mvZ (.int .i64 0) rfl ?_
    refine nZ ?_
    refine Vc.blk ?_
    obtain ⟨I, μ, h0, hI⟩ := h
    refine Vc.loop' (σ := (Int)) (fun y => I y) (fun y => μ y) (fun y => envOf [(0, eL eRat fail), (1, eL eRat repair), (43, .int .i64 (fail.length : Int)), (44, .int .i64 y)]) (fun y => stL S rg []) 0 (canon (fc vr (fc vr (fc vr (fc vr (fn))))) (sn)) h0 (fun x1 h => ?_)
    replace h := hI x1 h
    show Vc _ _ _ _ (envOf [(0, eL eRat fail), (1, eL eRat repair), (43, .int .i64 (fail.length : Int)), (44, .int .i64 x1)]) (stL S rg [])
    refine qZ (rZ ?_)
    refine wZ rg (o_lss rfl rfl ?_)
    refine nZ (qZ ?_)
    refine Vc.cond' rfl (fun hb6 => ?_) (fun hb6 => ?_)
    · replace h := h.1 hb6
      refine Vc.skip' ?_
      refine qZ ?_
      refine Vc.blk ?_
      refine qZ (rZ ?_)
      refine mvZ (.int .i64 x1) rfl ?_
      refine asZ (.int .i64 x1) rfl ?_
      refine nZ (qZ ?_)
      have hg := h.1
      replace h := h.2
      have hg1 := h.1
      replace h := h.2
      obtain ⟨r2, r3, hc, h⟩ := h
      refine Vc.drawn' mixed rg (usOf [(8, pc (.tuple [eRat r2, .int .i64 r3]))]) (by kernel_rfl) ?_
      refine dP rfl rfl (o_move (v := eL eRat fail) rfl ?_)
      refine dP rfl rfl (o_move (v := .int .i64 x1) rfl ?_)
      refine dP rfl rfl (o_idxL td22 sz27 (by decide) (fun _ => rfl) rfl rfl hg ?_)
      refine dP rfl rfl (o_loadIA sz27 (by decide) ag27 rfl rfl (v := eRat (at' fail x1)) rfl ?_)
      refine dP rfl rfl (o_move (v := eL eRat repair) rfl ?_)
      refine dP rfl rfl (o_move (v := .int .i64 x1) rfl ?_)
      refine dP rfl rfl (o_idxL td22 sz27 (by decide) (fun _ => rfl) rfl rfl hg1 ?_)
      refine dP rfl rfl (o_loadIA sz27 (by decide) ag27 rfl rfl (v := eRat (at' repair x1)) rfl ?_)
      refine dC (vs := [eRat (at' fail x1), eRat (at' repair x1)]) rfl (vl' vr (vl' vr (vn))) (fun _ => ref50_Unavailable_ctr hc (fun _ _ hr => ⟨by rw [hr.1, hr.2], rfl⟩)) rfl ?_
      refine dP rfl rfl (o_move (v := .tuple [eRat r2, .int .i64 r3]) rfl ?_)
      refine dP rfl rfl (o_extract (v := eRat r2) rfl rfl rfl ?_)
      refine dP rfl rfl (o_extract (v := .int .i64 r3) rfl rfl rfl ?_)
      refine dL (E := ([], [(rg, 7)])) rfl rfl (by simp) (cfn) (o_alloc zav27 ok27 (kk := 3) rfl (fun g1 => ?_))
      refine dL (E := ([], [(rg, 7)])) rfl rfl (by simp) (cfo (by kernel_rfl) (cfn)) (o_storeB (atL (k := 7) rfl) sz27 (by decide) rfl (w := eRat r2) rfl rfl rfl (v := eRat r2) rfl setL ?_)
      refine dP rfl rfl (o_assign (v := .int .i64 r3) rfl ?_)
      refine dN ?_
      refine qZ (rZ ?_)
      refine mvZ (.int .i64 r3) rfl ?_
      refine wZ rg (o_neq rfl rfl ?_)
      refine nZ ?_
      refine Vc.cond' rfl (fun hb7 => ?_) (fun hb7 => ?_)
      · replace h := h.1 hb7
        refine qZ (rZ ?_)
        refine mvZ (.int .i64 r3) rfl ?_
        refine asZ (.int .i64 r3) rfl ?_
        refine nZ ?_
        refine Vc.ret' ?_
        refine res_tmp (v := .int .i64 r3) rfl ?_
        refine res_nil ?_
        show Gives _ (.int .i64 r3) _
        exact gives_out hrg (VW.refl _) (hQ _ h)
      replace h := h.2 hb7
      refine Vc.skip' ?_
      refine rZ ?_
      refine wZ rg (o_addG rfl rfl h.1 ?_)
      replace h := h.2
      refine mvZ (.int .i64 (x1 + 1)) rfl ?_
      refine nZ ?_
      exact ⟨(x1 + 1), (canon (fc vr (fc vr (fc vr (fc vr (fn))))) (sn)), h⟩
    replace h := h.2 hb6
    refine Vc.exit' (exB_self ?_)
    refine qZ (rZ ?_)
    refine asZ (.int .i64 0) rfl ?_
    refine nZ ?_
    refine Vc.ret' ?_
    refine res_tmp (v := .int .i64 0) rfl ?_
    refine res_nil ?_
    show Gives _ (.int .i64 0) _
    exact gives_out hrg (VW.refl _) (hQ _ h)
  replace h := h.1 hb
  refine Wl.guardF rfl rfl hb rfl ?_
  refine Wl.guardF rfl rfl hb rfl ?_
  refine wZ rg (o_pickT rfl hb (v := .bool true) rfl ?_)
  refine nZ ?_
  refine Vc.cond' rfl (fun _ => ?_) (fun hb => Bool.noConfusion hb)
  refine qZ (rZ ?_)
  refine asZ (.int .i64 11) rfl ?_
  refine nZ ?_
  refine Vc.ret' ?_
  refine res_tmp (v := .int .i64 11) rfl ?_
  refine res_nil ?_
  show Gives _ (.int .i64 11) _
  exact gives_out hrg (VW.refl _) (hQ _ h)
end Go.Proofs.Ytonbnfgknijpoaa
