/- Walks of functions. Conditions: none. -/
import Derived.Test.YtonbnfgknijpoaaWR46
import Derived.Test.YtonbnfgknijpoaaGgTy
import Derived.Test.YtonbnfgknijpoaaKBl
import Derived.Test.YtonbnfgknijpoaaKFb
namespace Go.Proofs.Ytonbnfgknijpoaa
open Go.Gg
set_option maxRecDepth 100000
theorem ref46_Events_ctr {m : GMission} {Q : Int → Prop} {S : St} {R : AV → St → Prop} (h : ref46_Events_W m Q) (hQ : ∀ r1, Q r1 → R (AV.int .i64 r1) S) :
    Ctr Try.prog 68 [eMission m] S R := by
  unfold ref46_Events_W at h
  refine enterT Try.func68 rfl Try.ntmps68 Try.results68 (by kernel_rfl) (fun rg hrg => ?_)
  refine qZ (rZ ?_)
  refine wZ rg (o_box (v := eMission m) rfl rfl (kk := 2) rfl (by decide) (fun g1 => ?_))
  refine asZ (.int .i64 0) rfl ?_
  refine nZ (qZ (rZ ?_))
  refine wZ rg (o_faP td94 rfl rfl (by rw [sz91]; decide) rfl ?_)
  refine wZ rg (o_loadB1 (atL (k := 1) rfl) sz91 ag91 rfl rfl (v := eL eFormula m.Phases) rfl ?_)
  refine wZ rg (o_idxL td91 sz70 (by decide) (fun _ => rfl) rfl rfl h.1 ?_)
  replace h := h.2
  refine wZ rg (o_fa td70 rfl rfl (by rw [sz3]; decide) rfl rfl ?_)
  refine wZ rg (o_loadI1 sz3 ag3 rfl rfl (v := .int .i64 ((at' m.Phases 0).Vars)) rfl ?_)
  refine asZ (.int .i64 ((at' m.Phases 0).Vars)) rfl ?_
  refine nZ ?_
  refine Vc.ret' ?_
  refine res_tmp (v := .int .i64 ((at' m.Phases 0).Vars)) rfl ?_
  refine res_nil ?_
  show Gives _ (.int .i64 ((at' m.Phases 0).Vars)) _
  exact gives_out hrg (VW.refl _) (hQ _ h)
theorem ref46_formulas_ctr {m : GMission} {Q : Int → Prop} {S : St} {R : AV → St → Prop} (h : ref46_formulas_W m Q) (hQ : ∀ r1, Q r1 → R (AV.int .i64 r1) S) :
    Ctr Try.prog 127 [eMission m] S R := by
  unfold ref46_formulas_W at h
  refine enterT Try.func127 rfl Try.ntmps127 Try.results127 (by kernel_rfl) (fun rg hrg => ?_)
  refine qZ (rZ ?_)
  refine wZ rg (o_box (v := eMission m) rfl rfl (kk := 2) rfl (by decide) (fun g1 => ?_))
  refine asZ (.int .i64 0) rfl ?_
  refine nZ (qZ (qZ (rZ ?_)))
  refine wZ rg (o_faP td94 rfl rfl (by rw [sz91]; decide) rfl ?_)
  refine wZ rg (o_loadB1 (atL (k := 1) rfl) sz91 ag91 rfl rfl (v := eL eFormula m.Phases) rfl ?_)
  refine wZ rg (o_len td91 rfl ?_)
  refine wZ rg (o_eql rfl rfl ?_)
  refine nZ ?_
  refine Vc.cond' rfl (fun hb => ?_) (fun hb => ?_)
  · replace h := h.1 hb
    refine qZ (rZ ?_)
    refine asZ (.int .i64 11) rfl ?_
    refine nZ ?_
    refine Vc.ret' ?_
    refine res_tmp (v := .int .i64 11) rfl ?_
    refine res_nil ?_
    show Gives _ (.int .i64 11) _
    exact gives_out hrg (VW.refl _) (hQ _ h)
  replace h := h.2 hb
  refine Vc.skip' ?_
  refine qZ (qZ (rZ ?_))
  refine wZ rg (o_faP td94 rfl rfl (by rw [sz91]; decide) rfl ?_)
  refine wZ rg (o_loadB1 (atL (k := 1) rfl) sz91 ag91 rfl rfl (v := eL eFormula m.Phases) rfl ?_)
  refine wZ rg (o_len td91 rfl ?_)
  refine wZ rg (o_gtr rfl rfl ?_)
  refine nZ ?_
  refine Vc.cond' rfl (fun hb1 => ?_) (fun hb1 => ?_)
  · replace h := h.1 hb1
    refine qZ (rZ ?_)
    refine asZ (.int .i64 4) rfl ?_
    refine nZ ?_
    refine Vc.ret' ?_
    refine res_tmp (v := .int .i64 4) rfl ?_
    refine res_nil ?_
    show Gives _ (.int .i64 4) _
    exact gives_out hrg (VW.refl _) (hQ _ h)
  replace h := h.2 hb1
  refine Vc.skip' ?_
  refine qZ (qZ (rZ ?_))
  refine asZ (.int .i64 0) rfl ?_
  refine nZ ?_
  refine Vc.blk ?_
  obtain ⟨I, μ, h0, hI⟩ := h
  refine Vc.loop' (σ := (Int)) (fun y => I y) (fun y => μ y) (fun y => envOf [(1, .ptr rg 1 g1 0 0), (3, .int .i64 y)]) (fun y => stL S rg [(1, .arr 2 [eMission m], g1)]) 0 (canon (fc vr (fc vr (fn))) (sc rfl (sn))) h0 (fun j h => ?_)
  replace h := hI j h
  show Vc _ _ _ _ (envOf [(1, .ptr rg 1 g1 0 0), (3, .int .i64 j)]) (stL S rg [(1, .arr 2 [eMission m], g1)])
  refine qZ (qZ (rZ ?_))
  refine mvZ (.int .i64 j) rfl ?_
  refine wZ rg (o_faP td94 rfl rfl (by rw [sz91]; decide) rfl ?_)
  refine wZ rg (o_loadB1 (atL (k := 1) rfl) sz91 ag91 rfl rfl (v := eL eFormula m.Phases) rfl ?_)
  refine wZ rg (o_len td91 rfl ?_)
  refine wZ rg (o_lss rfl rfl ?_)
  refine nZ ?_
  refine Vc.cond' rfl (fun hb2 => ?_) (fun hb2 => ?_)
  · replace h := h.1 hb2
    refine Vc.skip' ?_
    refine qZ ?_
    refine Vc.blk ?_
    refine qZ (qZ (rZ ?_))
    refine wZ rg (o_faP td94 rfl rfl (by rw [sz91]; decide) rfl ?_)
    refine wZ rg (o_loadB1 (atL (k := 1) rfl) sz91 ag91 rfl rfl (v := eL eFormula m.Phases) rfl ?_)
    refine mvZ (.int .i64 j) rfl ?_
    refine wZ rg (o_idxL td91 sz70 (by decide) (fun _ => rfl) rfl rfl h.1 ?_)
    replace h := h.2
    refine wZ rg (o_loadIA sz70 (by decide) ag70 rfl rfl (v := eFormula (at' m.Phases j)) rfl ?_)
    refine wZ rg (o_call (us := [eFormula (at' m.Phases j)]) rfl (vl' vr (vn)) (ref08_Check_ctr h fun e h => ?_))
    refine asZ (.int .i64 e) rfl ?_
    refine nZ (qZ (rZ ?_))
    refine mvZ (.int .i64 e) rfl ?_
    refine wZ rg (o_neq rfl rfl ?_)
    refine nZ ?_
    refine Vc.cond' rfl (fun hb3 => ?_) (fun hb3 => ?_)
    · replace h := h.1 hb3
      refine qZ (rZ ?_)
      refine mvZ (.int .i64 e) rfl ?_
      refine asZ (.int .i64 e) rfl ?_
      refine nZ ?_
      refine Vc.ret' ?_
      refine res_tmp (v := .int .i64 e) rfl ?_
      refine res_nil ?_
      show Gives _ (.int .i64 e) _
      exact gives_out hrg (VW.refl _) (hQ _ h)
    replace h := h.2 hb3
    refine Vc.skip' ?_
    refine qZ ?_
    have hg := h.1
    replace h := h.2
    obtain ⟨r, hc, h⟩ := h
    refine Vc.drawn' mixed rg (usOf [(7, pc (.int .i64 r))]) (by kernel_rfl) ?_
    refine dP rfl rfl (o_faP td94 rfl rfl (by rw [sz91]; decide) rfl ?_)
    refine dL (E := ([(rg, 1)], [])) rfl rfl (by simp) (cfn) (o_loadB1 (atL (k := 1) rfl) sz91 ag91 rfl rfl (v := eL eFormula m.Phases) rfl ?_)
    refine dP rfl rfl (o_move (v := .int .i64 j) rfl ?_)
    refine dP rfl rfl (o_idxL td91 sz70 (by decide) (fun _ => rfl) rfl rfl hg ?_)
    refine dP rfl rfl (o_fa td70 rfl rfl (by rw [sz3]; decide) rfl rfl ?_)
    refine dP rfl rfl (o_loadI1 sz3 ag3 rfl rfl (v := .int .i64 ((at' m.Phases j).Vars)) rfl ?_)
    refine dL (E := ([(rg, 1)], [])) rfl rfl (by simp) (cfa (by simp [apartE]) (cfn)) (o_loadBA (atL (k := 1) rfl) sz94 (by decide) ag94 rfl rfl (v := eMission m) rfl ?_)
    refine dC (vs := [eMission m]) rfl (vl' vr (vn)) (fun _ => ref46_Events_ctr hc (fun _ hr => ⟨by rw [hr], rfl⟩)) rfl ?_
    refine dP rfl rfl (o_neq rfl rfl ?_)
    refine dN ?_
    refine Vc.cond' rfl (fun hb4 => ?_) (fun hb4 => ?_)
    · replace h := h.1 hb4
      refine qZ (rZ ?_)
      refine asZ (.int .i64 11) rfl ?_
      refine nZ ?_
      refine Vc.ret' ?_
      refine res_tmp (v := .int .i64 11) rfl ?_
      refine res_nil ?_
      show Gives _ (.int .i64 11) _
      exact gives_out hrg (VW.refl _) (hQ _ h)
    replace h := h.2 hb4
    refine Vc.skip' ?_
    refine rZ ?_
    refine mvZ (.int .i64 j) rfl ?_
    refine wZ rg (o_addG rfl rfl h.1 ?_)
    replace h := h.2
    refine asZ (.int .i64 (j + 1)) rfl ?_
    refine nZ ?_
    exact ⟨(j + 1), (canon (fc vr (fc vr (fn))) (sc rfl (sn))), h⟩
  replace h := h.2 hb2
  refine Vc.exit' (exB_self ?_)
  refine qZ (rZ ?_)
  refine asZ (.int .i64 0) rfl ?_
  refine nZ ?_
  refine Vc.ret' ?_
  refine res_tmp (v := .int .i64 0) rfl ?_
  refine res_nil ?_
  show Gives _ (.int .i64 0) _
  exact gives_out hrg (VW.refl _) (hQ _ h)
theorem ref46_Check_ctr {m : GMission} {Q : Int → Prop} {S : St} {R : AV → St → Prop} (h : ref46_Check_W m Q) (hQ : ∀ r1, Q r1 → R (AV.int .i64 r1) S) :
    Ctr Try.prog 59 [eMission m] S R := by
  unfold ref46_Check_W at h
  refine enterT Try.func59 rfl Try.ntmps59 Try.results59 (by kernel_rfl) (fun rg hrg => ?_)
  refine qZ (rZ ?_)
  refine wZ rg (o_box (v := eMission m) rfl rfl (kk := 2) rfl (by decide) (fun g1 => ?_))
  refine asZ (.int .i64 0) rfl ?_
  refine nZ (qZ (qZ (rZ ?_)))
  refine wZ rg (o_loadBA (atL (k := 1) rfl) sz94 (by decide) ag94 rfl rfl (v := eMission m) rfl ?_)
  refine wZ rg (o_call (us := [eMission m]) rfl (vl' vr (vn)) (ref46_formulas_ctr h fun e h => ?_))
  refine asZ (.int .i64 e) rfl ?_
  refine nZ (qZ (rZ ?_))
  refine mvZ (.int .i64 e) rfl ?_
  refine wZ rg (o_neq rfl rfl ?_)
  refine nZ ?_
  refine Vc.cond' rfl (fun hb => ?_) (fun hb => ?_)
  · replace h := h.1 hb
    refine qZ (rZ ?_)
    refine mvZ (.int .i64 e) rfl ?_
    refine asZ (.int .i64 e) rfl ?_
    refine nZ ?_
    refine Vc.ret' ?_
    refine res_tmp (v := .int .i64 e) rfl ?_
    refine res_nil ?_
    show Gives _ (.int .i64 e) _
    exact gives_out hrg (VW.refl _) (hQ _ h)
  replace h := h.2 hb
  refine Vc.skip' ?_
  refine qZ (qZ ?_)
  obtain ⟨r, hc, h⟩ := h
  have hg := h.1
  replace h := h.2
  refine Vc.drawn' mixed rg (usOf [(1, pc (.int .i64 r))]) (by kernel_rfl) ?_
  refine dL (E := ([(rg, 1)], [])) rfl rfl (by simp) (cfn) (o_loadBA (atL (k := 1) rfl) sz94 (by decide) ag94 rfl rfl (v := eMission m) rfl ?_)
  refine dC (vs := [eMission m]) rfl (vl' vr (vn)) (fun _ => ref46_Events_ctr hc (fun _ hr => ⟨by rw [hr], rfl⟩)) rfl ?_
  refine dP rfl rfl (o_faP td94 rfl rfl (by rw [sz91]; decide) rfl ?_)
  refine dL (E := ([(rg, 1)], [])) rfl rfl (by simp) (cfa (by simp [apartE]) (cfn)) (o_loadB1 (atL (k := 1) rfl) sz91 ag91 rfl rfl (v := eL eFormula m.Phases) rfl ?_)
  refine dP rfl rfl (o_len td91 rfl ?_)
  refine dP rfl rfl (o_mulG rfl rfl hg ?_)
  refine dP rfl rfl (o_gtr rfl rfl ?_)
  refine dN ?_
  refine Vc.cond' rfl (fun hb1 => ?_) (fun hb1 => ?_)
  · replace h := h.1 hb1
    refine qZ (rZ ?_)
    refine asZ (.int .i64 4) rfl ?_
    refine nZ ?_
    refine Vc.ret' ?_
    refine res_tmp (v := .int .i64 4) rfl ?_
    refine res_nil ?_
    show Gives _ (.int .i64 4) _
    exact gives_out hrg (VW.refl _) (hQ _ h)
  replace h := h.2 hb1
  refine Vc.skip' ?_
  refine qZ (qZ ?_)
  obtain ⟨r1, hc1, h⟩ := h
  refine Vc.drawn' mixed rg (usOf [(4, pc (.int .i64 r1))]) (by kernel_rfl) ?_
  refine dP rfl rfl (o_faP td94 rfl rfl (by rw [sz92]; decide) rfl ?_)
  refine dL (E := ([(rg, 1)], [])) rfl rfl (by simp) (cfn) (o_loadB1 (atL (k := 1) rfl) sz92 ag92 rfl rfl (v := eL (eL eRat) m.P) rfl ?_)
  refine dP rfl rfl (o_len td92 rfl ?_)
  refine dL (E := ([(rg, 1)], [])) rfl rfl (by simp) (cfa (by simp [apartE]) (cfn)) (o_loadBA (atL (k := 1) rfl) sz94 (by decide) ag94 rfl rfl (v := eMission m) rfl ?_)
  refine dC (vs := [eMission m]) rfl (vl' vr (vn)) (fun _ => ref46_Events_ctr hc1 (fun _ hr => ⟨by rw [hr], rfl⟩)) rfl ?_
  refine dP rfl rfl (o_neq rfl rfl ?_)
  refine dN ?_
  refine Vc.cond' rfl (fun hb2 => ?_) (fun hb2 => ?_)
  · replace h := h.1 hb2
    refine qZ (rZ ?_)
    refine asZ (.int .i64 11) rfl ?_
    refine nZ ?_
    refine Vc.ret' ?_
    refine res_tmp (v := .int .i64 11) rfl ?_
    refine res_nil ?_
    show Gives _ (.int .i64 11) _
    exact gives_out hrg (VW.refl _) (hQ _ h)
  replace h := h.2 hb2
  refine Vc.skip' ?_
  refine qZ (qZ (rZ ?_))
  refine asZ (.int .i64 0) rfl ?_
  refine nZ ?_
  refine Vc.blk ?_
  obtain ⟨I, μ, h0, hI⟩ := h
  refine Vc.loop' (σ := (Int)) (fun y => I y) (fun y => μ y) (fun y => envOf [(1, .ptr rg 1 g1 0 0), (4, .int .i64 y)]) (fun y => stL S rg [(1, .arr 2 [eMission m], g1)]) 0 (canon (fc vr (fc vr (fn))) (sc rfl (sn))) h0 (fun i h => ?_)
  replace h := hI i h
  show Vc _ _ _ _ (envOf [(1, .ptr rg 1 g1 0 0), (4, .int .i64 i)]) (stL S rg [(1, .arr 2 [eMission m], g1)])
  refine qZ (qZ (rZ ?_))
  refine mvZ (.int .i64 i) rfl ?_
  refine wZ rg (o_faP td94 rfl rfl (by rw [sz92]; decide) rfl ?_)
  refine wZ rg (o_loadB1 (atL (k := 1) rfl) sz92 ag92 rfl rfl (v := eL (eL eRat) m.P) rfl ?_)
  refine wZ rg (o_len td92 rfl ?_)
  refine wZ rg (o_lss rfl rfl ?_)
  refine nZ ?_
  refine Vc.cond' rfl (fun hb3 => ?_) (fun hb3 => ?_)
  · replace h := h.1 hb3
    refine Vc.skip' ?_
    refine qZ ?_
    refine Vc.blk ?_
    refine qZ (qZ ?_)
    have hg1 := h.1
    replace h := h.2
    refine Vc.drawn' mixed rg (fun _ => jcr2) (by kernel_rfl) ?_
    refine dP rfl rfl (o_faP td94 rfl rfl (by rw [sz92]; decide) rfl ?_)
    refine dL (E := ([(rg, 1)], [])) rfl rfl (by simp) (cfn) (o_loadB1 (atL (k := 1) rfl) sz92 ag92 rfl rfl (v := eL (eL eRat) m.P) rfl ?_)
    refine dP rfl rfl (o_move (v := .int .i64 i) rfl ?_)
    refine dP rfl rfl (o_idxL td92 sz22 (by decide) (fun _ => rfl) rfl rfl hg1 ?_)
    refine dP rfl rfl (o_loadI1 sz22 ag22 rfl rfl (v := eL eRat (at' m.P i)) rfl ?_)
    refine dP rfl rfl (o_len td22 rfl ?_)
    refine dP rfl rfl (o_faP td94 rfl rfl (by rw [sz91]; decide) rfl ?_)
    refine dL (E := ([(rg, 1)], [])) rfl rfl (by simp) (cfa (by simp [apartE]) (cfn)) (o_loadB1 (atL (k := 1) rfl) sz91 ag91 rfl rfl (v := eL eFormula m.Phases) rfl ?_)
    refine dP rfl rfl (o_len td91 rfl ?_)
    refine dP rfl rfl (o_neq rfl rfl ?_)
    refine dN ?_
    refine Vc.cond' rfl (fun hb4 => ?_) (fun hb4 => ?_)
    · replace h := h.1 hb4
      refine qZ (rZ ?_)
      refine asZ (.int .i64 11) rfl ?_
      refine nZ ?_
      refine Vc.ret' ?_
      refine res_tmp (v := .int .i64 11) rfl ?_
      refine res_nil ?_
      show Gives _ (.int .i64 11) _
      exact gives_out hrg (VW.refl _) (hQ _ h)
    replace h := h.2 hb4
    refine Vc.skip' ?_
    refine qZ (rZ ?_)
    refine asZ (.int .i64 0) rfl ?_
    refine nZ ?_
    refine Vc.blk ?_
    obtain ⟨I, μ, h0, hI⟩ := h
    refine Vc.loop' (σ := (Int)) (fun y => I y) (fun y => μ y) (fun y => envOf [(1, .ptr rg 1 g1 0 0), (4, .int .i64 i), (5, .int .i64 y)]) (fun y => stL S rg [(1, .arr 2 [eMission m], g1)]) 0 (canon (fc vr (fc vr (fc vr (fn)))) (sc rfl (sn))) h0 (fun j h => ?_)
    replace h := hI j h
    show Vc _ _ _ _ (envOf [(1, .ptr rg 1 g1 0 0), (4, .int .i64 i), (5, .int .i64 j)]) (stL S rg [(1, .arr 2 [eMission m], g1)])
    refine qZ (qZ (rZ ?_))
    refine mvZ (.int .i64 j) rfl ?_
    refine wZ rg (o_faP td94 rfl rfl (by rw [sz92]; decide) rfl ?_)
    refine wZ rg (o_loadB1 (atL (k := 1) rfl) sz92 ag92 rfl rfl (v := eL (eL eRat) m.P) rfl ?_)
    refine mvZ (.int .i64 i) rfl ?_
    refine wZ rg (o_idxL td92 sz22 (by decide) (fun _ => rfl) rfl rfl h.1 ?_)
    replace h := h.2
    refine wZ rg (o_loadI1 sz22 ag22 rfl rfl (v := eL eRat (at' m.P i)) rfl ?_)
    refine wZ rg (o_len td22 rfl ?_)
    refine wZ rg (o_lss rfl rfl ?_)
    refine nZ ?_
    refine Vc.cond' rfl (fun hb5 => ?_) (fun hb5 => ?_)
    · replace h := h.1 hb5
      refine Vc.skip' ?_
      refine qZ ?_
      refine Vc.blk ?_
      refine qZ (rZ ?_)
      refine wZ rg (o_faP td94 rfl rfl (by rw [sz92]; decide) rfl ?_)
      refine wZ rg (o_loadB1 (atL (k := 1) rfl) sz92 ag92 rfl rfl (v := eL (eL eRat) m.P) rfl ?_)
      refine mvZ (.int .i64 i) rfl ?_
      refine wZ rg (o_idxL td92 sz22 (by decide) (fun _ => rfl) rfl rfl h.1 ?_)
      replace h := h.2
      refine wZ rg (o_loadI1 sz22 ag22 rfl rfl (v := eL eRat (at' m.P i)) rfl ?_)
      refine mvZ (.int .i64 j) rfl ?_
      refine wZ rg (o_idxL td22 sz27 (by decide) (fun _ => rfl) rfl rfl h.1 ?_)
      replace h := h.2
      refine wZ rg (o_loadIA sz27 (by decide) ag27 rfl rfl (v := eRat (at' (at' m.P i) j)) rfl ?_)
      refine wZ rg (o_call (us := [eRat (at' (at' m.P i) j)]) rfl (vl' vr (vn)) (ref02_Prob_ctr h fun r2 h => ?_))
      refine wZ rg (o_not rfl ?_)
      refine nZ ?_
      refine Vc.cond' rfl (fun hb6 => ?_) (fun hb6 => ?_)
      · replace h := h.1 hb6
        refine qZ (rZ ?_)
        refine asZ (.int .i64 3) rfl ?_
        refine nZ ?_
        refine Vc.ret' ?_
        refine res_tmp (v := .int .i64 3) rfl ?_
        refine res_nil ?_
        show Gives _ (.int .i64 3) _
        exact gives_out hrg (VW.refl _) (hQ _ h)
      replace h := h.2 hb6
      refine Vc.skip' ?_
      refine rZ ?_
      refine mvZ (.int .i64 j) rfl ?_
      refine wZ rg (o_addG rfl rfl h.1 ?_)
      replace h := h.2
      refine asZ (.int .i64 (j + 1)) rfl ?_
      refine nZ ?_
      exact ⟨(j + 1), (canon (fc vr (fc vr (fc vr (fn)))) (sc rfl (sn))), h⟩
    replace h := h.2 hb5
    refine Vc.exit' (exB_self ?_)
    refine rZ ?_
    refine mvZ (.int .i64 i) rfl ?_
    refine wZ rg (o_addG rfl rfl h.1 ?_)
    replace h := h.2
    refine asZ (.int .i64 (i + 1)) rfl ?_
    refine nZ ?_
    exact ⟨(i + 1), (canon (fc vr (fc vr (fn))) (sc rfl (sn))), h⟩
  replace h := h.2 hb3
  refine Vc.exit' (exB_self ?_)
  refine qZ (rZ ?_)
  refine asZ (.int .i64 0) rfl ?_
  refine nZ ?_
  refine Vc.ret' ?_
  refine res_tmp (v := .int .i64 0) rfl ?_
  refine res_nil ?_
  show Gives _ (.int .i64 0) _
  exact gives_out hrg (VW.refl _) (hQ _ h)
theorem ref46_CheckHistory_ctr {m : GMission} {h1 : List Int} {Q : Int → Prop} {S : St} {R : AV → St → Prop} (h : ref46_CheckHistory_W m h1 Q) (hQ : ∀ r1, Q r1 → R (AV.int .i64 r1) S) :
    Ctr Try.prog 61 [eMission m, eL (AV.int .i64) h1] S R := by
  unfold ref46_CheckHistory_W at h
  refine enterT Try.func61 rfl Try.ntmps61 Try.results61 (by kernel_rfl) (fun rg hrg => ?_)
  refine qZ (rZ ?_)
  refine wZ rg (o_box (v := eMission m) rfl rfl (kk := 2) rfl (by decide) (fun g1 => ?_))
  refine asZ (.int .i64 0) rfl ?_
  refine nZ (qZ (qZ (rZ ?_)))
  refine wZ rg (o_loadBA (atL (k := 2) rfl) sz94 (by decide) ag94 rfl rfl (v := eMission m) rfl ?_)
  refine wZ rg (o_call (us := [eMission m]) rfl (vl' vr (vn)) (ref46_Check_ctr h fun e h => ?_))
  refine asZ (.int .i64 e) rfl ?_
  refine nZ (qZ (rZ ?_))
  refine mvZ (.int .i64 e) rfl ?_
  refine wZ rg (o_neq rfl rfl ?_)
  refine nZ ?_
  refine Vc.cond' rfl (fun hb => ?_) (fun hb => ?_)
  · replace h := h.1 hb
    refine qZ (rZ ?_)
    refine mvZ (.int .i64 e) rfl ?_
    refine asZ (.int .i64 e) rfl ?_
    refine nZ ?_
    refine Vc.ret' ?_
    refine res_tmp (v := .int .i64 e) rfl ?_
    refine res_nil ?_
    show Gives _ (.int .i64 e) _
    exact gives_out hrg (VW.refl _) (hQ _ h)
  replace h := h.2 hb
  refine Vc.skip' ?_
  refine qZ (qZ (rZ ?_))
  refine mvZ (eL (AV.int .i64) h1) rfl ?_
  refine wZ rg (o_len td76 rfl ?_)
  refine wZ rg (o_loadBA (atL (k := 2) rfl) sz94 (by decide) ag94 rfl rfl (v := eMission m) rfl ?_)
  refine wZ rg (o_call (us := [eMission m]) rfl (vl' vr (vn)) (ref46_Events_ctr h fun r h => ?_))
  refine wZ rg (o_neq rfl rfl ?_)
  refine nZ ?_
  refine Vc.cond' rfl (fun hb1 => ?_) (fun hb1 => ?_)
  · replace h := h.1 hb1
    refine qZ (rZ ?_)
    refine asZ (.int .i64 11) rfl ?_
    refine nZ ?_
    refine Vc.ret' ?_
    refine res_tmp (v := .int .i64 11) rfl ?_
    refine res_nil ?_
    show Gives _ (.int .i64 11) _
    exact gives_out hrg (VW.refl _) (hQ _ h)
  replace h := h.2 hb1
  refine Vc.skip' ?_
  refine qZ (qZ (rZ ?_))
  refine asZ (.int .i64 0) rfl ?_
  refine nZ ?_
  refine Vc.blk ?_
  obtain ⟨I, μ, h0, hI⟩ := h
  refine Vc.loop' (σ := (Int)) (fun y => I y) (fun y => μ y) (fun y => envOf [(1, eL (AV.int .i64) h1), (2, .ptr rg 2 g1 0 0), (6, .int .i64 y)]) (fun y => stL S rg [(2, .arr 2 [eMission m], g1)]) 0 (canon (fc vr (fc vr (fc vr (fn)))) (sc rfl (sn))) h0 (fun i h => ?_)
  replace h := hI i h
  show Vc _ _ _ _ (envOf [(1, eL (AV.int .i64) h1), (2, .ptr rg 2 g1 0 0), (6, .int .i64 i)]) (stL S rg [(2, .arr 2 [eMission m], g1)])
  refine qZ (qZ (rZ ?_))
  refine mvZ (.int .i64 i) rfl ?_
  refine mvZ (eL (AV.int .i64) h1) rfl ?_
  refine wZ rg (o_len td76 rfl ?_)
  refine wZ rg (o_lss rfl rfl ?_)
  refine nZ ?_
  refine Vc.cond' rfl (fun hb2 => ?_) (fun hb2 => ?_)
  · replace h := h.1 hb2
    refine Vc.skip' ?_
    refine qZ ?_
    refine Vc.blk ?_
    refine qZ ?_
    have hg := h.1
    replace h := h.2
    rcases Bool.eq_false_or_eq_true (decide ((at' h1 i) < 0)) with hb3 | hb3
    · replace h := h.1 hb3
      refine Vc.drawn' mixed rg (fun _ => jcr2) (by kernel_rfl) ?_
      refine dP rfl rfl (o_move (v := eL (AV.int .i64) h1) rfl ?_)
      refine dP rfl rfl (o_move (v := .int .i64 i) rfl ?_)
      refine dP rfl rfl (o_idxL td76 sz3 (by decide) (fun _ => rfl) rfl rfl hg ?_)
      refine dP rfl rfl (o_loadI1 sz3 ag3 rfl rfl (v := .int .i64 (at' h1 i)) rfl ?_)
      refine dP rfl rfl (o_lss rfl rfl ?_)
      refine dP rfl rfl (o_move (v := .bool (decide ((at' h1 i) < 0))) rfl ?_)
      refine dGF rfl rfl hb3 rfl ?_
      refine dGF rfl rfl rfl rfl ?_
      refine dGF rfl rfl rfl rfl ?_
      refine dGF rfl rfl rfl rfl ?_
      refine dGF rfl rfl rfl rfl ?_
      refine dGF rfl rfl rfl rfl ?_
      refine dGF rfl rfl rfl rfl ?_
      refine dGF rfl rfl rfl rfl ?_
      refine dP rfl rfl (o_pickT rfl rfl (v := .bool true) rfl ?_)
      refine dN ?_
      refine Vc.cond' rfl (fun _ => ?_) (fun hb => Bool.noConfusion hb)
      refine qZ (rZ ?_)
      refine asZ (.int .i64 3) rfl ?_
      refine nZ ?_
      refine Vc.ret' ?_
      refine res_tmp (v := .int .i64 3) rfl ?_
      refine res_nil ?_
      show Gives _ (.int .i64 3) _
      exact gives_out hrg (VW.refl _) (hQ _ h)
    replace h := h.2 hb3
    have hg1 := h.1
    replace h := h.2
    refine Vc.drawn' mixed rg (fun _ => jcr2) (by kernel_rfl) ?_
    refine dP rfl rfl (o_move (v := eL (AV.int .i64) h1) rfl ?_)
    refine dP rfl rfl (o_move (v := .int .i64 i) rfl ?_)
    refine dP rfl rfl (o_idxL td76 sz3 (by decide) (fun _ => rfl) rfl rfl hg ?_)
    refine dP rfl rfl (o_loadI1 sz3 ag3 rfl rfl (v := .int .i64 (at' h1 i)) rfl ?_)
    refine dP rfl rfl (o_lss rfl rfl ?_)
    refine dP rfl rfl (o_move (v := .bool (decide ((at' h1 i) < 0))) rfl ?_)
    refine dGT rfl rfl hb3 ?_
    refine dP rfl rfl (o_move (v := eL (AV.int .i64) h1) rfl ?_)
    refine dGT rfl rfl rfl ?_
    refine dP rfl rfl (o_move (v := .int .i64 i) rfl ?_)
    refine dGT rfl rfl rfl ?_
    refine dP rfl rfl (o_idxL td76 sz3 (by decide) (fun _ => rfl) rfl rfl hg1 ?_)
    refine dGT rfl rfl rfl ?_
    refine dP rfl rfl (o_loadI1 sz3 ag3 rfl rfl (v := .int .i64 (at' h1 i)) rfl ?_)
    refine dGT rfl rfl rfl ?_
    refine dP rfl rfl (o_faP td94 rfl rfl (by rw [sz91]; decide) rfl ?_)
    refine dGT rfl rfl rfl ?_
    refine dL (E := ([(rg, 2)], [])) rfl rfl (by simp) (cfn) (o_loadB1 (atL (k := 2) rfl) sz91 ag91 rfl rfl (v := eL eFormula m.Phases) rfl ?_)
    refine dGT rfl rfl rfl ?_
    refine dP rfl rfl (o_len td91 rfl ?_)
    refine dGT rfl rfl rfl ?_
    refine dP rfl rfl (o_gtr rfl rfl ?_)
    refine dP rfl rfl (o_pickF rfl rfl (v := .bool (decide ((m.Phases.length : Int) < (at' h1 i)))) rfl ?_)
    refine dN ?_
    refine Vc.cond' rfl (fun hb4 => ?_) (fun hb4 => ?_)
    · replace h := h.1 hb4
      refine qZ (rZ ?_)
      refine asZ (.int .i64 3) rfl ?_
      refine nZ ?_
      refine Vc.ret' ?_
      refine res_tmp (v := .int .i64 3) rfl ?_
      refine res_nil ?_
      show Gives _ (.int .i64 3) _
      exact gives_out hrg (VW.refl _) (hQ _ h)
    replace h := h.2 hb4
    refine Vc.skip' ?_
    refine rZ ?_
    refine mvZ (.int .i64 i) rfl ?_
    refine wZ rg (o_addG rfl rfl h.1 ?_)
    replace h := h.2
    refine asZ (.int .i64 (i + 1)) rfl ?_
    refine nZ ?_
    exact ⟨(i + 1), (canon (fc vr (fc vr (fc vr (fn)))) (sc rfl (sn))), h⟩
  replace h := h.2 hb2
  refine Vc.exit' (exB_self ?_)
  refine qZ (rZ ?_)
  refine asZ (.int .i64 0) rfl ?_
  refine nZ ?_
  refine Vc.ret' ?_
  refine res_tmp (v := .int .i64 0) rfl ?_
  refine res_nil ?_
  show Gives _ (.int .i64 0) _
  exact gives_out hrg (VW.refl _) (hQ _ h)
end Go.Proofs.Ytonbnfgknijpoaa
