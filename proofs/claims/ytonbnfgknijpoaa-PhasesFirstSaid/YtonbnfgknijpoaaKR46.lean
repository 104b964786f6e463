/- Walks of functions. Conditions: none. -/
import Derived.Test.YtonbnfgknijpoaaWR46
import Derived.Test.YtonbnfgknijpoaaGgTy
import Derived.Test.YtonbnfgknijpoaaKBl
import Derived.Test.YtonbnfgknijpoaaKFb
namespace Go.Proofs.Ytonbnfgknijpoaa
open Go.Gg
set_option maxRecDepth 100000
theorem ref46_Events_ctr {m : GMission} {Q : Int → Prop} {S : St} {R : AV → St → Prop} (h : ref46_Events_W m Q) (hQ : ∀ r1, Q r1 → R (AV.int .i64 r1) S) :
    Ctr Try.prog 68 [eMission m] S R := by
  unfold ref46_Events_W at h
  refine enterT Try.func68 rfl Try.ntmps68 Try.results68 (by kernel_rfl) (fun rg hrg => ?_)
  refine qZ (rZ (wZ rg (o_box (v := eMission m) rfl rfl (kk := 2) rfl (by decide) (fun g1 => (asZ (.int .i64 0) rfl (nZ (qZ (rZ (wZ rg (o_faP td94 rfl rfl (by rw [sz91]; decide) rfl (wZ rg (o_loadB1 (atL (k := 1) rfl) sz91 ag91 rfl rfl (v := eL eFormula m.Phases) rfl (wZ rg (o_idxL td91 sz70 (by decide) (fun _ => rfl) rfl rfl h.1 ?_))))))))))))))
  replace h := h.2
  refine wZ rg (o_fa td70 rfl rfl (by rw [sz3]; decide) rfl rfl (wZ rg (o_loadI1 sz3 ag3 rfl rfl (v := .int .i64 ((at' m.Phases 0).Vars)) rfl (asZ (.int .i64 ((at' m.Phases 0).Vars)) rfl (nZ ?_)))))
  refine Vc.ret' ?_
  refine res_tmp (v := .int .i64 ((at' m.Phases 0).Vars)) rfl (res_nil ?_)
  show Gives _ (.int .i64 ((at' m.Phases 0).Vars)) _
  exact gives_out hrg (VW.refl _) (hQ _ h)
theorem ref46_formulas_ctr {m : GMission} {Q : Int → Prop} {S : St} {R : AV → St → Prop} (h : ref46_formulas_W m Q) (hQ : ∀ r1, Q r1 → R (AV.int .i64 r1) S) :
    Ctr Try.prog 127 [eMission m] S R := by
  unfold ref46_formulas_W at h
  refine enterT Try.func127 rfl Try.ntmps127 Try.results127 (by kernel_rfl) (fun rg hrg => ?_)
  refine qZ (rZ (wZ rg (o_box (v := eMission m) rfl rfl (kk := 2) rfl (by decide) (fun g1 => (asZ (.int .i64 0) rfl (nZ (qZ (qZ (rZ (wZ rg (o_faP td94 rfl rfl (by rw [sz91]; decide) rfl (wZ rg (o_loadB1 (atL (k := 1) rfl) sz91 ag91 rfl rfl (v := eL eFormula m.Phases) rfl (wZ rg (o_len td91 rfl (wZ rg (o_eql rfl rfl (nZ ?_))))))))))))))))))
  refine Vc.cond' rfl (fun hb => ?_) (fun hb => ?_)
  · replace h := h.1 hb
    refine qZ (rZ (asZ (.int .i64 11) rfl (nZ ?_)))
    refine Vc.ret' ?_
    refine res_tmp (v := .int .i64 11) rfl (res_nil ?_)
    show Gives _ (.int .i64 11) _
    exact gives_out hrg (VW.refl _) (hQ _ h)
  replace h := h.2 hb
  refine Vc.skip' ?_
  refine qZ (qZ (rZ (wZ rg (o_faP td94 rfl rfl (by rw [sz91]; decide) rfl (wZ rg (o_loadB1 (atL (k := 1) rfl) sz91 ag91 rfl rfl (v := eL eFormula m.Phases) rfl (wZ rg (o_len td91 rfl (wZ rg (o_gtr rfl rfl (nZ ?_)))))))))))
  refine Vc.cond' rfl (fun hb1 => ?_) (fun hb1 => ?_)
  · replace h := h.1 hb1
    refine qZ (rZ (asZ (.int .i64 4) rfl (nZ ?_)))
    refine Vc.ret' ?_
    refine res_tmp (v := .int .i64 4) rfl (res_nil ?_)
    show Gives _ (.int .i64 4) _
    exact gives_out hrg (VW.refl _) (hQ _ h)
  replace h := h.2 hb1
  refine Vc.skip' ?_
  refine qZ (qZ (rZ (asZ (.int .i64 0) rfl (nZ ?_))))
  refine Vc.blk ?_
  obtain ⟨I, μ, h0, hI⟩ := h
  refine Vc.loop' (σ := (Int)) (fun y => I y) (fun y => μ y) (fun y => envOf [(1, .ptr rg 1 g1 0 0), (3, .int .i64 y)]) (fun y => stL S rg [(1, .arr 2 [eMission m], g1)]) 0 (canon (fc vr (fc vr (fn))) (sc rfl (sn))) h0 (fun j h => ?_)
  replace h := hI j h
  show Vc _ _ _ _ (envOf [(1, .ptr rg 1 g1 0 0), (3, .int .i64 j)]) (stL S rg [(1, .arr 2 [eMission m], g1)])
  refine qZ (qZ (rZ (mvZ (.int .i64 j) rfl (wZ rg (o_faP td94 rfl rfl (by rw [sz91]; decide) rfl (wZ rg (o_loadB1 (atL (k := 1) rfl) sz91 ag91 rfl rfl (v := eL eFormula m.Phases) rfl (wZ rg (o_len td91 rfl (wZ rg (o_lss rfl rfl (nZ ?_))))))))))))
  refine Vc.cond' rfl (fun hb2 => ?_) (fun hb2 => ?_)
  · replace h := h.1 hb2
    refine Vc.skip' ?_
    refine qZ ?_
    refine Vc.blk ?_
    refine qZ (qZ (rZ (wZ rg (o_faP td94 rfl rfl (by rw [sz91]; decide) rfl (wZ rg (o_loadB1 (atL (k := 1) rfl) sz91 ag91 rfl rfl (v := eL eFormula m.Phases) rfl (mvZ (.int .i64 j) rfl (wZ rg (o_idxL td91 sz70 (by decide) (fun _ => rfl) rfl rfl h.1 ?_)))))))))
    replace h := h.2
    refine wZ rg (o_loadIA sz70 (by decide) ag70 rfl rfl (v := eFormula (at' m.Phases j)) rfl (wZ rg (o_call (us := [eFormula (at' m.Phases j)]) rfl (vl' vr (vn)) (ref08_Check_ctr h fun e h => (asZ (.int .i64 e) rfl (nZ (qZ (rZ (mvZ (.int .i64 e) rfl (wZ rg (o_neq rfl rfl (nZ ?_))))))))))))
    refine Vc.cond' rfl (fun hb3 => ?_) (fun hb3 => ?_)
    · replace h := h.1 hb3
      refine qZ (rZ (mvZ (.int .i64 e) rfl (asZ (.int .i64 e) rfl (nZ ?_))))
      refine Vc.ret' ?_
      refine res_tmp (v := .int .i64 e) rfl (res_nil ?_)
      show Gives _ (.int .i64 e) _
      exact gives_out hrg (VW.refl _) (hQ _ h)
    replace h := h.2 hb3
    refine Vc.skip' ?_
    refine qZ ?_
    have hg := h.1
    replace h := h.2
    obtain ⟨r, hc, h⟩ := h
    refine Vc.drawn' mixed rg (usOf [(7, pc (.int .i64 r))]) (by kernel_rfl) ?_
    refine dP rfl rfl (o_faP td94 rfl rfl (by rw [sz91]; decide) rfl (dL (E := ([(rg, 1)], [])) rfl rfl (by simp) (cfn) (o_loadB1 (atL (k := 1) rfl) sz91 ag91 rfl rfl (v := eL eFormula m.Phases) rfl (dP rfl rfl (o_move (v := .int .i64 j) rfl (dP rfl rfl (o_idxL td91 sz70 (by decide) (fun _ => rfl) rfl rfl hg (dP rfl rfl (o_fa td70 rfl rfl (by rw [sz3]; decide) rfl rfl ?_)))))))))
    refine dP rfl rfl (o_loadI1 sz3 ag3 rfl rfl (v := .int .i64 ((at' m.Phases j).Vars)) rfl (dL (E := ([(rg, 1)], [])) rfl rfl (by simp) (cfa (by simp [apartE]) (cfn)) (o_loadBA (atL (k := 1) rfl) sz94 (by decide) ag94 rfl rfl (v := eMission m) rfl ?_)))
    refine dC (vs := [eMission m]) rfl (vl' vr (vn)) (fun _ => ref46_Events_ctr hc (fun _ hr => ⟨by rw [hr], rfl⟩)) rfl ?_
    refine dP rfl rfl (o_neq rfl rfl (dN ?_))
    refine Vc.cond' rfl (fun hb4 => ?_) (fun hb4 => ?_)
    · replace h := h.1 hb4
      refine qZ (rZ (asZ (.int .i64 11) rfl (nZ ?_)))
      refine Vc.ret' ?_
      refine res_tmp (v := .int .i64 11) rfl (res_nil ?_)
      show Gives _ (.int .i64 11) _
      exact gives_out hrg (VW.refl _) (hQ _ h)
    replace h := h.2 hb4
    refine Vc.skip' ?_
    refine rZ ?_
    refine mvZ (.int .i64 j) rfl (wZ rg (o_addG rfl rfl h.1 ?_))
    replace h := h.2
    refine asZ (.int .i64 (j + 1)) rfl (nZ ?_)
    exact ⟨(j + 1), (canon (fc vr (fc vr (fn))) (sc rfl (sn))), h⟩
  replace h := h.2 hb2
  refine Vc.exit' (exB_self ?_)
  refine qZ (rZ (asZ (.int .i64 0) rfl (nZ ?_)))
  refine Vc.ret' ?_
  refine res_tmp (v := .int .i64 0) rfl (res_nil ?_)
  show Gives _ (.int .i64 0) _
  exact gives_out hrg (VW.refl _) (hQ _ h)
theorem ref46_Check_ctr {m : GMission} {Q : Int → Prop} {S : St} {R : AV → St → Prop} (h : ref46_Check_W m Q) (hQ : ∀ r1, Q r1 → R (AV.int .i64 r1) S) :
    Ctr Try.prog 59 [eMission m] S R := by
  unfold ref46_Check_W at h
  refine enterT Try.func59 rfl Try.ntmps59 Try.results59 (by kernel_rfl) (fun rg hrg => ?_)
  refine qZ (rZ (wZ rg (o_box (v := eMission m) rfl rfl (kk := 2) rfl (by decide) (fun g1 => (asZ (.int .i64 0) rfl (nZ (qZ (qZ (rZ (wZ rg (o_loadBA (atL (k := 1) rfl) sz94 (by decide) ag94 rfl rfl (v := eMission m) rfl (wZ rg (o_call (us := [eMission m]) rfl (vl' vr (vn)) (ref46_formulas_ctr h fun e h => (asZ (.int .i64 e) rfl (nZ (qZ (rZ (mvZ (.int .i64 e) rfl (wZ rg (o_neq rfl rfl ?_)))))))))))))))))))))
  refine nZ ?_
  refine Vc.cond' rfl (fun hb => ?_) (fun hb => ?_)
  · replace h := h.1 hb
    refine qZ (rZ (mvZ (.int .i64 e) rfl (asZ (.int .i64 e) rfl (nZ ?_))))
    refine Vc.ret' ?_
    refine res_tmp (v := .int .i64 e) rfl (res_nil ?_)
    show Gives _ (.int .i64 e) _
    exact gives_out hrg (VW.refl _) (hQ _ h)
  replace h := h.2 hb
  refine Vc.skip' ?_
  refine qZ (qZ ?_)
  obtain ⟨r, hc, h⟩ := h
  have hg := h.1
  replace h := h.2
  refine Vc.drawn' mixed rg (usOf [(1, pc (.int .i64 r))]) (by kernel_rfl) ?_
  refine dL (E := ([(rg, 1)], [])) rfl rfl (by simp) (cfn) (o_loadBA (atL (k := 1) rfl) sz94 (by decide) ag94 rfl rfl (v := eMission m) rfl ?_)
  refine dC (vs := [eMission m]) rfl (vl' vr (vn)) (fun _ => ref46_Events_ctr hc (fun _ hr => ⟨by rw [hr], rfl⟩)) rfl ?_
  refine dP rfl rfl (o_faP td94 rfl rfl (by rw [sz91]; decide) rfl (dL (E := ([(rg, 1)], [])) rfl rfl (by simp) (cfa (by simp [apartE]) (cfn)) (o_loadB1 (atL (k := 1) rfl) sz91 ag91 rfl rfl (v := eL eFormula m.Phases) rfl (dP rfl rfl (o_len td91 rfl (dP rfl rfl (o_mulG rfl rfl hg (dP rfl rfl (o_gtr rfl rfl (dN ?_))))))))))
  refine Vc.cond' rfl (fun hb1 => ?_) (fun hb1 => ?_)
  · replace h := h.1 hb1
    refine qZ (rZ (asZ (.int .i64 4) rfl (nZ ?_)))
    refine Vc.ret' ?_
    refine res_tmp (v := .int .i64 4) rfl (res_nil ?_)
    show Gives _ (.int .i64 4) _
    exact gives_out hrg (VW.refl _) (hQ _ h)
  replace h := h.2 hb1
  refine Vc.skip' ?_
  refine qZ (qZ ?_)
  obtain ⟨r1, hc1, h⟩ := h
  refine Vc.drawn' mixed rg (usOf [(4, pc (.int .i64 r1))]) (by kernel_rfl) ?_
  refine dP rfl rfl (o_faP td94 rfl rfl (by rw [sz92]; decide) rfl (dL (E := ([(rg, 1)], [])) rfl rfl (by simp) (cfn) (o_loadB1 (atL (k := 1) rfl) sz92 ag92 rfl rfl (v := eL (eL eRat) m.P) rfl (dP rfl rfl (o_len td92 rfl (dL (E := ([(rg, 1)], [])) rfl rfl (by simp) (cfa (by simp [apartE]) (cfn)) (o_loadBA (atL (k := 1) rfl) sz94 (by decide) ag94 rfl rfl (v := eMission m) rfl ?_)))))))
  refine dC (vs := [eMission m]) rfl (vl' vr (vn)) (fun _ => ref46_Events_ctr hc1 (fun _ hr => ⟨by rw [hr], rfl⟩)) rfl ?_
  refine dP rfl rfl (o_neq rfl rfl (dN ?_))
  refine Vc.cond' rfl (fun hb2 => ?_) (fun hb2 => ?_)
  · replace h := h.1 hb2
    refine qZ (rZ (asZ (.int .i64 11) rfl (nZ ?_)))
    refine Vc.ret' ?_
    refine res_tmp (v := .int .i64 11) rfl (res_nil ?_)
    show Gives _ (.int .i64 11) _
    exact gives_out hrg (VW.refl _) (hQ _ h)
  replace h := h.2 hb2
  refine Vc.skip' ?_
  refine qZ (qZ (rZ (asZ (.int .i64 0) rfl (nZ ?_))))
  refine Vc.blk ?_
  obtain ⟨I, μ, h0, hI⟩ := h
  refine Vc.loop' (σ := (Int)) (fun y => I y) (fun y => μ y) (fun y => envOf [(1, .ptr rg 1 g1 0 0), (4, .int .i64 y)]) (fun y => stL S rg [(1, .arr 2 [eMission m], g1)]) 0 (canon (fc vr (fc vr (fn))) (sc rfl (sn))) h0 (fun i h => ?_)
  replace h := hI i h
  show Vc _ _ _ _ (envOf [(1, .ptr rg 1 g1 0 0), (4, .int .i64 i)]) (stL S rg [(1, .arr 2 [eMission m], g1)])
  refine qZ (qZ (rZ (mvZ (.int .i64 i) rfl (wZ rg (o_faP td94 rfl rfl (by rw [sz92]; decide) rfl (wZ rg (o_loadB1 (atL (k := 1) rfl) sz92 ag92 rfl rfl (v := eL (eL eRat) m.P) rfl (wZ rg (o_len td92 rfl (wZ rg (o_lss rfl rfl (nZ ?_))))))))))))
  refine Vc.cond' rfl (fun hb3 => ?_) (fun hb3 => ?_)
  · replace h := h.1 hb3
    refine Vc.skip' ?_
    refine qZ ?_
    refine Vc.blk ?_
    refine qZ (qZ ?_)
    have hg1 := h.1
    replace h := h.2
    refine Vc.drawn' mixed rg (fun _ => jcr2) (by kernel_rfl) ?_
    refine dP rfl rfl (o_faP td94 rfl rfl (by rw [sz92]; decide) rfl (dL (E := ([(rg, 1)], [])) rfl rfl (by simp) (cfn) (o_loadB1 (atL (k := 1) rfl) sz92 ag92 rfl rfl (v := eL (eL eRat) m.P) rfl (dP rfl rfl (o_move (v := .int .i64 i) rfl (dP rfl rfl (o_idxL td92 sz22 (by decide) (fun _ => rfl) rfl rfl hg1 (dP rfl rfl (o_loadI1 sz22 ag22 rfl rfl (v := eL eRat (at' m.P i)) rfl ?_)))))))))
    refine dP rfl rfl (o_len td22 rfl (dP rfl rfl (o_faP td94 rfl rfl (by rw [sz91]; decide) rfl (dL (E := ([(rg, 1)], [])) rfl rfl (by simp) (cfa (by simp [apartE]) (cfn)) (o_loadB1 (atL (k := 1) rfl) sz91 ag91 rfl rfl (v := eL eFormula m.Phases) rfl (dP rfl rfl (o_len td91 rfl (dP rfl rfl (o_neq rfl rfl (dN ?_))))))))))
    refine Vc.cond' rfl (fun hb4 => ?_) (fun hb4 => ?_)
    · replace h := h.1 hb4
      refine qZ (rZ (asZ (.int .i64 11) rfl (nZ ?_)))
      refine Vc.ret' ?_
      refine res_tmp (v := .int .i64 11) rfl (res_nil ?_)
      show Gives _ (.int .i64 11) _
      exact gives_out hrg (VW.refl _) (hQ _ h)
    replace h := h.2 hb4
    refine Vc.skip' ?_
    refine qZ (rZ (asZ (.int .i64 0) rfl (nZ ?_)))
    refine Vc.blk ?_
    obtain ⟨I, μ, h0, hI⟩ := h
    refine Vc.loop' (σ := (Int)) (fun y => I y) (fun y => μ y) (fun y => envOf [(1, .ptr rg 1 g1 0 0), (4, .int .i64 i), (5, .int .i64 y)]) (fun y => stL S rg [(1, .arr 2 [eMission m], g1)]) 0 (canon (fc vr (fc vr (fc vr (fn)))) (sc rfl (sn))) h0 (fun j h => ?_)
    replace h := hI j h
    show Vc _ _ _ _ (envOf [(1, .ptr rg 1 g1 0 0), (4, .int .i64 i), (5, .int .i64 j)]) (stL S rg [(1, .arr 2 [eMission m], g1)])
    refine qZ (qZ (rZ (mvZ (.int .i64 j) rfl (wZ rg (o_faP td94 rfl rfl (by rw [sz92]; decide) rfl (wZ rg (o_loadB1 (atL (k := 1) rfl) sz92 ag92 rfl rfl (v := eL (eL eRat) m.P) rfl (mvZ (.int .i64 i) rfl (wZ rg (o_idxL td92 sz22 (by decide) (fun _ => rfl) rfl rfl h.1 ?_))))))))))
    replace h := h.2
    refine wZ rg (o_loadI1 sz22 ag22 rfl rfl (v := eL eRat (at' m.P i)) rfl (wZ rg (o_len td22 rfl (wZ rg (o_lss rfl rfl (nZ ?_))))))
    refine Vc.cond' rfl (fun hb5 => ?_) (fun hb5 => ?_)
    · replace h := h.1 hb5
      refine Vc.skip' ?_
      refine qZ ?_
      refine Vc.blk ?_
      refine qZ (rZ (wZ rg (o_faP td94 rfl rfl (by rw [sz92]; decide) rfl (wZ rg (o_loadB1 (atL (k := 1) rfl) sz92 ag92 rfl rfl (v := eL (eL eRat) m.P) rfl (mvZ (.int .i64 i) rfl (wZ rg (o_idxL td92 sz22 (by decide) (fun _ => rfl) rfl rfl h.1 ?_))))))))
      replace h := h.2
      refine wZ rg (o_loadI1 sz22 ag22 rfl rfl (v := eL eRat (at' m.P i)) rfl (mvZ (.int .i64 j) rfl (wZ rg (o_idxL td22 sz27 (by decide) (fun _ => rfl) rfl rfl h.1 ?_))))
      replace h := h.2
      refine wZ rg (o_loadIA sz27 (by decide) ag27 rfl rfl (v := eRat (at' (at' m.P i) j)) rfl (wZ rg (o_call (us := [eRat (at' (at' m.P i) j)]) rfl (vl' vr (vn)) (ref02_Prob_ctr h fun r2 h => (wZ rg (o_not rfl (nZ ?_)))))))
      refine Vc.cond' rfl (fun hb6 => ?_) (fun hb6 => ?_)
      · replace h := h.1 hb6
        refine qZ (rZ (asZ (.int .i64 3) rfl (nZ ?_)))
        refine Vc.ret' ?_
        refine res_tmp (v := .int .i64 3) rfl (res_nil ?_)
        show Gives _ (.int .i64 3) _
        exact gives_out hrg (VW.refl _) (hQ _ h)
      replace h := h.2 hb6
      refine Vc.skip' ?_
      refine rZ ?_
      refine mvZ (.int .i64 j) rfl (wZ rg (o_addG rfl rfl h.1 ?_))
      replace h := h.2
      refine asZ (.int .i64 (j + 1)) rfl (nZ ?_)
      exact ⟨(j + 1), (canon (fc vr (fc vr (fc vr (fn)))) (sc rfl (sn))), h⟩
    replace h := h.2 hb5
    refine Vc.exit' (exB_self ?_)
    refine rZ ?_
    refine mvZ (.int .i64 i) rfl (wZ rg (o_addG rfl rfl h.1 ?_))
    replace h := h.2
    refine asZ (.int .i64 (i + 1)) rfl (nZ ?_)
    exact ⟨(i + 1), (canon (fc vr (fc vr (fn))) (sc rfl (sn))), h⟩
  replace h := h.2 hb3
  refine Vc.exit' (exB_self ?_)
  refine qZ (rZ (asZ (.int .i64 0) rfl (nZ ?_)))
  refine Vc.ret' ?_
  refine res_tmp (v := .int .i64 0) rfl (res_nil ?_)
  show Gives _ (.int .i64 0) _
  exact gives_out hrg (VW.refl _) (hQ _ h)
end Go.Proofs.Ytonbnfgknijpoaa
