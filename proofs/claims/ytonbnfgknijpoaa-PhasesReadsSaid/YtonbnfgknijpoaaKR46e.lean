/- Walks of functions. Conditions: none. -/
import Derived.Test.YtonbnfgknijpoaaWR46
import Derived.Test.YtonbnfgknijpoaaGgTy
import Derived.Test.YtonbnfgknijpoaaKB
import Derived.Test.YtonbnfgknijpoaaKBh
import Derived.Test.YtonbnfgknijpoaaKBi
import Derived.Test.YtonbnfgknijpoaaKFc
namespace Go.Proofs.Ytonbnfgknijpoaa
open Go.Gg
set_option maxRecDepth 100000
theorem ref46_Failed_ctr {h1 : List Int} {j : Int} {Q : Int → Prop} {S : St} {R : AV → St → Prop} (h : ref46_Failed_W h1 j Q) (hQ : ∀ r1, Q r1 → R (AV.int .i64 r1) S) :
    Ctr Try.prog 80 [eL (AV.int .i64) h1, AV.int .i64 j] S R := by
  unfold ref46_Failed_W at h
  refine enterT Try.func80 rfl Try.ntmps80 Try.results80 (by kernel_rfl) (fun rg hrg => ?_)
  refine qZ (rZ (asZ (.int .i64 0) rfl (nZ (qZ (rZ (asZ (.int .i64 0) rfl (nZ (qZ (qZ (rZ (asZ (.int .i64 0) rfl (nZ ?_))))))))))))
  refine Vc.blk ?_
  obtain ⟨I, μ, h0, hI⟩ := h
  refine Vc.loop' (σ := (Int × Int)) (fun y => I y) (fun y => μ y) (fun y => envOf [(0, eL (AV.int .i64) h1), (1, .int .i64 j), (5, .int .i64 y.1), (6, .int .i64 y.2)]) (fun y => stL S rg []) (0, 0) (canon (fc vr (fc vr (fc vr (fc vr (fn))))) (sn)) h0 (fun y h => ?_)
  obtain ⟨out, i⟩ := y
  replace h := hI (out, i) h
  show Vc _ _ _ _ (envOf [(0, eL (AV.int .i64) h1), (1, .int .i64 j), (5, .int .i64 out), (6, .int .i64 i)]) (stL S rg [])
  refine qZ (qZ (rZ (mvZ (.int .i64 i) rfl (mvZ (eL (AV.int .i64) h1) rfl (wZ rg (o_len td76 rfl (wZ rg (o_lss rfl rfl (nZ ?_)))))))))
  refine Vc.cond' rfl (fun hb => ?_) (fun hb => ?_)
  · replace h := h.1 hb
    refine Vc.skip' ?_
    refine qZ ?_
    refine Vc.blk ?_
    refine qZ (rZ (mvZ (eL (AV.int .i64) h1) rfl (mvZ (.int .i64 i) rfl (wZ rg (o_idxL td76 sz3 (by decide) (fun _ => rfl) rfl rfl h.1 ?_)))))
    replace h := h.2
    refine wZ rg (o_loadI1 sz3 ag3 rfl rfl (v := .int .i64 (at' h1 i)) rfl (mvZ (.int .i64 j) rfl (wZ rg (o_leq rfl rfl (nZ ?_)))))
    refine Vc.cond' rfl (fun hb1 => ?_) (fun hb1 => ?_)
    · replace h := h.1 hb1
      refine rZ ?_
      refine mvZ (.int .i64 out) rfl (mvZ (.int .i64 i) rfl (wZ rg (o_shlG rfl rfl h.1 ?_)))
      replace h := h.2
      refine wZ rg (o_or rfl rfl (asZ (.int .i64 (bits .or .i64 out (1 * 2 ^ (Int.toNat i)))) rfl (nZ (rZ (mvZ (.int .i64 i) rfl (wZ rg (o_addG rfl rfl h.1 ?_)))))))
      replace h := h.2
      refine asZ (.int .i64 (i + 1)) rfl (nZ ?_)
      exact ⟨((bits .or .i64 out (1 * 2 ^ (Int.toNat i))), (i + 1)), (canon (fc vr (fc vr (fc vr (fc vr (fn))))) (sn)), h⟩
    replace h := h.2 hb1
    refine Vc.skip' ?_
    refine rZ ?_
    refine mvZ (.int .i64 i) rfl (wZ rg (o_addG rfl rfl h.1 ?_))
    replace h := h.2
    refine asZ (.int .i64 (i + 1)) rfl (nZ ?_)
    exact ⟨(out, (i + 1)), (canon (fc vr (fc vr (fc vr (fc vr (fn))))) (sn)), h⟩
  replace h := h.2 hb
  refine Vc.exit' (exB_self ?_)
  refine qZ (rZ (mvZ (.int .i64 out) rfl (asZ (.int .i64 out) rfl (nZ ?_))))
  refine Vc.ret' ?_
  refine res_tmp (v := .int .i64 out) rfl (res_nil ?_)
  show Gives _ (.int .i64 out) _
  exact gives_out hrg (VW.refl _) (hQ _ h)
theorem ref46_Fails_ctr {m : GMission} {h1 : List Int} {Q : Int → Prop} {S : St} {R : AV → St → Prop} (h : ref46_Fails_W m h1 Q) (hQ : ∀ r1, Q r1 → R (AV.int .i64 r1) S) :
    Ctr Try.prog 77 [eMission m, eL (AV.int .i64) h1] S R := by
  unfold ref46_Fails_W at h
  refine enterT Try.func77 rfl Try.ntmps77 Try.results77 (by kernel_rfl) (fun rg hrg => ?_)
  refine qZ (rZ (wZ rg (o_box (v := eMission m) rfl rfl (kk := 2) rfl (by decide) (fun g1 => (asZ (.int .i64 0) rfl (nZ (qZ (qZ (rZ (asZ (.int .i64 0) rfl (nZ ?_)))))))))))
  refine Vc.blk ?_
  obtain ⟨I, μ, h0, hI⟩ := h
  refine Vc.loop' (σ := (Int)) (fun y => I y) (fun y => μ y) (fun y => envOf [(1, eL (AV.int .i64) h1), (2, .ptr rg 2 g1 0 0), (5, .int .i64 y)]) (fun y => stL S rg [(2, .arr 2 [eMission m], g1)]) 0 (canon (fc vr (fc vr (fc vr (fn)))) (sc rfl (sn))) h0 (fun j h => ?_)
  replace h := hI j h
  show Vc _ _ _ _ (envOf [(1, eL (AV.int .i64) h1), (2, .ptr rg 2 g1 0 0), (5, .int .i64 j)]) (stL S rg [(2, .arr 2 [eMission m], g1)])
  refine qZ (qZ (rZ (mvZ (.int .i64 j) rfl (wZ rg (o_faP td94 rfl rfl (by rw [sz91]; decide) rfl (wZ rg (o_loadB1 (atL (k := 2) rfl) sz91 ag91 rfl rfl (v := eL eFormula m.Phases) rfl (wZ rg (o_len td91 rfl (wZ rg (o_lss rfl rfl (nZ ?_))))))))))))
  refine Vc.cond' rfl (fun hb => ?_) (fun hb => ?_)
  · replace h := h.1 hb
    refine Vc.skip' ?_
    refine qZ ?_
    refine Vc.blk ?_
    refine qZ ?_
    have hg := h.1
    replace h := h.2
    obtain ⟨r, hc, h⟩ := h
    obtain ⟨r1, hc1, h⟩ := h
    refine Vc.drawn' mixed rg (usOf [(7, pc (.int .i64 r)), (8, pc (.bool r1))]) (by kernel_rfl) ?_
    refine dP rfl rfl (o_faP td94 rfl rfl (by rw [sz91]; decide) rfl (dL (E := ([(rg, 2)], [])) rfl rfl (by simp) (cfn) (o_loadB1 (atL (k := 2) rfl) sz91 ag91 rfl rfl (v := eL eFormula m.Phases) rfl (dP rfl rfl (o_move (v := .int .i64 j) rfl (dP rfl rfl (o_idxL td91 sz70 (by decide) (fun _ => rfl) rfl rfl hg (dP rfl rfl (o_loadIA sz70 (by decide) ag70 rfl rfl (v := eFormula (at' m.Phases j)) rfl ?_)))))))))
    refine dP rfl rfl (o_move (v := eL (AV.int .i64) h1) rfl (dP rfl rfl (o_move (v := .int .i64 j) rfl ?_)))
    refine dC (vs := [eL (AV.int .i64) h1, AV.int .i64 j]) rfl (vl' vr (vl' vr (vn))) (fun _ => ref46_Failed_ctr hc (fun _ hr => ⟨by rw [hr], rfl⟩)) rfl ?_
    refine dC (vs := [eFormula (at' m.Phases j), AV.int .i64 r]) rfl (vl' vr (vl' vr (vn))) (fun _ => ref08_Value_ctr hc1 (fun _ hr => ⟨by rw [hr], rfl⟩)) rfl ?_
    refine dN ?_
    refine Vc.cond' rfl (fun hb1 => ?_) (fun hb1 => ?_)
    · replace h := h.1 hb1
      refine qZ (rZ (mvZ (.int .i64 j) rfl (asZ (.int .i64 j) rfl (nZ ?_))))
      refine Vc.ret' ?_
      refine res_tmp (v := .int .i64 j) rfl (res_nil ?_)
      show Gives _ (.int .i64 j) _
      exact gives_out hrg (VW.refl _) (hQ _ h)
    replace h := h.2 hb1
    refine Vc.skip' ?_
    refine rZ ?_
    refine mvZ (.int .i64 j) rfl (wZ rg (o_addG rfl rfl h.1 ?_))
    replace h := h.2
    refine asZ (.int .i64 (j + 1)) rfl (nZ ?_)
    exact ⟨(j + 1), (canon (fc vr (fc vr (fc vr (fn)))) (sc rfl (sn))), h⟩
  replace h := h.2 hb
  refine Vc.exit' (exB_self ?_)
  refine qZ (rZ (wZ rg (o_faP td94 rfl rfl (by rw [sz91]; decide) rfl (wZ rg (o_loadB1 (atL (k := 2) rfl) sz91 ag91 rfl rfl (v := eL eFormula m.Phases) rfl (wZ rg (o_len td91 rfl (asZ (.int .i64 (m.Phases.length : Int)) rfl (nZ ?_)))))))))
  refine Vc.ret' ?_
  refine res_tmp (v := .int .i64 (m.Phases.length : Int)) rfl (res_nil ?_)
  show Gives _ (.int .i64 (m.Phases.length : Int)) _
  exact gives_out hrg (VW.refl _) (hQ _ h)
theorem ref46_State_ctr {m : GMission} {h1 : List Int} {Q : Int → Prop} {S : St} {R : AV → St → Prop} (h : ref46_State_W m h1 Q) (hQ : ∀ r1, Q r1 → R (AV.int .i64 r1) S) :
    Ctr Try.prog 78 [eMission m, eL (AV.int .i64) h1] S R := by
  unfold ref46_State_W at h
  refine enterT Try.func78 rfl Try.ntmps78 Try.results78 (by kernel_rfl) (fun rg hrg => ?_)
  refine qZ (rZ (wZ rg (o_box (v := eMission m) rfl rfl (kk := 2) rfl (by decide) (fun g1 => (asZ (.int .i64 0) rfl (nZ (qZ (rZ (asZ (.int .i64 0) rfl (nZ (qZ (qZ (rZ (asZ (.int .i64 0) rfl (nZ ?_)))))))))))))))
  refine Vc.blk ?_
  obtain ⟨I, μ, h0, hI⟩ := h
  refine Vc.loop' (σ := (Int × Int)) (fun y => I y) (fun y => μ y) (fun y => envOf [(1, eL (AV.int .i64) h1), (2, .ptr rg 2 g1 0 0), (5, .int .i64 y.1), (6, .int .i64 y.2)]) (fun y => stL S rg [(2, .arr 2 [eMission m], g1)]) (0, 0) (canon (fc vr (fc vr (fc vr (fc vr (fn))))) (sc rfl (sn))) h0 (fun y h => ?_)
  obtain ⟨out, i⟩ := y
  replace h := hI (out, i) h
  show Vc _ _ _ _ (envOf [(1, eL (AV.int .i64) h1), (2, .ptr rg 2 g1 0 0), (5, .int .i64 out), (6, .int .i64 i)]) (stL S rg [(2, .arr 2 [eMission m], g1)])
  refine qZ (qZ (rZ (mvZ (.int .i64 i) rfl (mvZ (eL (AV.int .i64) h1) rfl (wZ rg (o_len td76 rfl (wZ rg (o_lss rfl rfl (nZ ?_)))))))))
  refine Vc.cond' rfl (fun hb => ?_) (fun hb => ?_)
  · replace h := h.1 hb
    refine Vc.skip' ?_
    refine qZ ?_
    refine Vc.blk ?_
    refine qZ ?_
    have hg := h.1
    replace h := h.2
    refine Vc.drawn' mixed rg (fun _ => jcr2) (by kernel_rfl) ?_
    refine dP rfl rfl (o_move (v := eL (AV.int .i64) h1) rfl (dP rfl rfl (o_move (v := .int .i64 i) rfl (dP rfl rfl (o_idxL td76 sz3 (by decide) (fun _ => rfl) rfl rfl hg (dP rfl rfl (o_loadI1 sz3 ag3 rfl rfl (v := .int .i64 (at' h1 i)) rfl (dP rfl rfl (o_faP td94 rfl rfl (by rw [sz91]; decide) rfl ?_)))))))))
    refine dL (E := ([(rg, 2)], [])) rfl rfl (by simp) (cfn) (o_loadB1 (atL (k := 2) rfl) sz91 ag91 rfl rfl (v := eL eFormula m.Phases) rfl (dP rfl rfl (o_len td91 rfl (dP rfl rfl (o_lss rfl rfl (dN ?_))))))
    refine Vc.cond' rfl (fun hb1 => ?_) (fun hb1 => ?_)
    · replace h := h.1 hb1
      have hg1 := h.1
      replace h := h.2
      have hg2 := h.1
      replace h := h.2
      have hg3 := h.1
      replace h := h.2
      have hg4 := h.1
      replace h := h.2
      refine Vc.drawn' mixed rg (fun _ => jcr2) (by kernel_rfl) ?_
      refine dP rfl rfl (o_move (v := .int .i64 out) rfl (dP rfl rfl (o_move (v := .int .i64 i) rfl (dP rfl rfl (o_faP td94 rfl rfl (by rw [sz91]; decide) rfl (dL (E := ([(rg, 2)], [])) rfl rfl (by simp) (cfn) (o_loadB1 (atL (k := 2) rfl) sz91 ag91 rfl rfl (v := eL eFormula m.Phases) rfl (dP rfl rfl (o_len td91 rfl (dP rfl rfl (o_mulG rfl rfl hg1 (dP rfl rfl (o_move (v := eL (AV.int .i64) h1) rfl ?_)))))))))))))
      refine dP rfl rfl (o_move (v := .int .i64 i) rfl (dP rfl rfl (o_idxL td76 sz3 (by decide) (fun _ => rfl) rfl rfl hg2 (dP rfl rfl (o_loadI1 sz3 ag3 rfl rfl (v := .int .i64 (at' h1 i)) rfl (dP rfl rfl (o_addG rfl rfl hg3 (dP rfl rfl (o_shlG rfl rfl hg4 (dP rfl rfl (o_or rfl rfl ?_)))))))))))
      refine dP rfl rfl (o_assign (v := .int .i64 (bits .or .i64 out (1 * 2 ^ (Int.toNat ((i * (m.Phases.length : Int)) + (at' h1 i)))))) rfl (dN (rZ (mvZ (.int .i64 i) rfl (wZ rg (o_addG rfl rfl h.1 ?_))))))
      replace h := h.2
      refine asZ (.int .i64 (i + 1)) rfl (nZ ?_)
      exact ⟨((bits .or .i64 out (1 * 2 ^ (Int.toNat ((i * (m.Phases.length : Int)) + (at' h1 i))))), (i + 1)), (canon (fc vr (fc vr (fc vr (fc vr (fn))))) (sc rfl (sn))), h⟩
    replace h := h.2 hb1
    refine Vc.skip' ?_
    refine rZ ?_
    refine mvZ (.int .i64 i) rfl (wZ rg (o_addG rfl rfl h.1 ?_))
    replace h := h.2
    refine asZ (.int .i64 (i + 1)) rfl (nZ ?_)
    exact ⟨(out, (i + 1)), (canon (fc vr (fc vr (fc vr (fc vr (fn))))) (sc rfl (sn))), h⟩
  replace h := h.2 hb
  refine Vc.exit' (exB_self ?_)
  refine qZ (rZ (mvZ (.int .i64 out) rfl (asZ (.int .i64 out) rfl (nZ ?_))))
  refine Vc.ret' ?_
  refine res_tmp (v := .int .i64 out) rfl (res_nil ?_)
  show Gives _ (.int .i64 out) _
  exact gives_out hrg (VW.refl _) (hQ _ h)
theorem ref46_Weight_ctr {m : GMission} {h1 : List Int} {Q : GRat → Prop} {S : St} {R : AV → St → Prop} (h : ref46_Weight_W m h1 Q) (hQ : ∀ r1, Q r1 → R (eRat r1) S) :
    Ctr Try.prog 79 [eMission m, eL (AV.int .i64) h1] S R := by
  unfold ref46_Weight_W at h
  refine enterT Try.func79 rfl Try.ntmps79 Try.results79 (by kernel_rfl) (fun rg hrg => ?_)
  refine qZ (rZ (wZ rg (o_box (v := eMission m) rfl rfl (kk := 2) rfl (by decide) (fun g1 => (wZ rg (o_alloc zav27 ok27 (kk := 3) rfl (fun g2 => (nZ (qZ (rZ (wZ rg (o_call (us := [AV.int .i64 1]) rfl (vl' vr (vn)) (ref02_Of_ctr h fun r h => (wZ rg (o_alloc zav27 ok27 (kk := 3) rfl (fun g3 => ?_))))))))))))))))
  refine wZ rg (o_storeB (atL (k := 5) rfl) sz27 (by decide) rfl (w := eRat r) rfl rfl rfl (v := eRat r) rfl setL (nZ (qZ (qZ (rZ (asZ (.int .i64 0) rfl (nZ ?_)))))))
  refine Vc.blk ?_
  obtain ⟨I, μ, h0, hI⟩ := h
  refine Vc.loop' (σ := (Int × GRat)) (fun y => I y) (fun y => μ y) (fun y => envOf [(1, eL (AV.int .i64) h1), (2, .ptr rg 2 g1 0 0), (4, .ptr rg 4 g2 0 0), (5, .ptr rg 5 g3 0 0), (6, .int .i64 y.1)]) (fun y => stL S rg [(2, .arr 2 [eMission m], g1), (4, .arr 3 [.agg [.bool false, .nil, .nil]], g2), (5, .arr 3 [eRat y.2], g3)]) (0, r) (canon (fc vr (fc vr (fc vr (fc vr (fc vr (fn)))))) (sc rfl (sc rfl (sc rfl (sn))))) h0 (fun y h => ?_)
  obtain ⟨i, x⟩ := y
  replace h := hI (i, x) h
  show Vc _ _ _ _ (envOf [(1, eL (AV.int .i64) h1), (2, .ptr rg 2 g1 0 0), (4, .ptr rg 4 g2 0 0), (5, .ptr rg 5 g3 0 0), (6, .int .i64 i)]) (stL S rg [(2, .arr 2 [eMission m], g1), (4, .arr 3 [.agg [.bool false, .nil, .nil]], g2), (5, .arr 3 [eRat x], g3)])
  refine qZ (qZ (rZ (mvZ (.int .i64 i) rfl (mvZ (eL (AV.int .i64) h1) rfl (wZ rg (o_len td76 rfl (wZ rg (o_lss rfl rfl (nZ ?_)))))))))
  refine Vc.cond' rfl (fun hb => ?_) (fun hb => ?_)
  · replace h := h.1 hb
    refine Vc.skip' ?_
    refine qZ ?_
    refine Vc.blk ?_
    refine qZ (qZ (rZ (asZ (.int .i64 0) rfl (nZ ?_))))
    refine Vc.blk ?_
    obtain ⟨I, μ, h0, hI⟩ := h
    refine Vc.loop' (σ := (Int × GRat)) (fun y => I y) (fun y => μ y) (fun y => envOf [(1, eL (AV.int .i64) h1), (2, .ptr rg 2 g1 0 0), (4, .ptr rg 4 g2 0 0), (5, .ptr rg 5 g3 0 0), (6, .int .i64 i), (7, .int .i64 y.1)]) (fun y => stL S rg [(2, .arr 2 [eMission m], g1), (4, .arr 3 [.agg [.bool false, .nil, .nil]], g2), (5, .arr 3 [eRat y.2], g3)]) (0, x) (canon (fc vr (fc vr (fc vr (fc vr (fc vr (fc vr (fn))))))) (sc rfl (sc rfl (sc rfl (sn))))) h0 (fun y h => ?_)
    obtain ⟨k1, x1⟩ := y
    replace h := hI (k1, x1) h
    show Vc _ _ _ _ (envOf [(1, eL (AV.int .i64) h1), (2, .ptr rg 2 g1 0 0), (4, .ptr rg 4 g2 0 0), (5, .ptr rg 5 g3 0 0), (6, .int .i64 i), (7, .int .i64 k1)]) (stL S rg [(2, .arr 2 [eMission m], g1), (4, .arr 3 [.agg [.bool false, .nil, .nil]], g2), (5, .arr 3 [eRat x1], g3)])
    refine qZ (qZ (rZ (mvZ (.int .i64 k1) rfl (mvZ (eL (AV.int .i64) h1) rfl (mvZ (.int .i64 i) rfl (wZ rg (o_idxL td76 sz3 (by decide) (fun _ => rfl) rfl rfl h.1 ?_)))))))
    replace h := h.2
    refine wZ rg (o_loadI1 sz3 ag3 rfl rfl (v := .int .i64 (at' h1 i)) rfl (wZ rg (o_lss rfl rfl (nZ ?_))))
    refine Vc.cond' rfl (fun hb1 => ?_) (fun hb1 => ?_)
    · replace h := h.1 hb1
      refine Vc.skip' ?_
      refine qZ ?_
      refine Vc.blk ?_
      obtain ⟨r1, hc, h⟩ := h
      have hg := h.1
      replace h := h.2
      have hg1 := h.1
      replace h := h.2
      obtain ⟨r2, hc1, h⟩ := h
      obtain ⟨r3, hc2, h⟩ := h
      refine Vc.drawn' mixed rg (usOf [(1, pc (eRat r1)), (10, pc (eRat r2)), (11, pc (eRat r3))]) (by kernel_rfl) ?_
      refine dL (E := ([(rg, 5)], [])) rfl rfl (by simp) (cfn) (o_loadBA (atL (k := 5) rfl) sz27 (by decide) ag27 rfl rfl (v := eRat x1) rfl ?_)
      refine dC (vs := [AV.int .i64 1]) rfl (vl' vr (vn)) (fun _ => ref02_Of_ctr hc (fun _ hr => ⟨by rw [hr], rfl⟩)) rfl ?_
      refine dP rfl rfl (o_faP td94 rfl rfl (by rw [sz92]; decide) rfl (dL (E := ([(rg, 2)], [])) rfl rfl (by simp) (cfa (by simp [apartE]) (cfn)) (o_loadB1 (atL (k := 2) rfl) sz92 ag92 rfl rfl (v := eL (eL eRat) m.P) rfl (dP rfl rfl (o_move (v := .int .i64 i) rfl (dP rfl rfl (o_idxL td92 sz22 (by decide) (fun _ => rfl) rfl rfl hg (dP rfl rfl (o_loadI1 sz22 ag22 rfl rfl (v := eL eRat (at' m.P i)) rfl ?_)))))))))
      refine dP rfl rfl (o_move (v := .int .i64 k1) rfl (dP rfl rfl (o_idxL td22 sz27 (by decide) (fun _ => rfl) rfl rfl hg1 (dP rfl rfl (o_loadIA sz27 (by decide) ag27 rfl rfl (v := eRat (at' (at' m.P i) k1)) rfl ?_)))))
      refine dC (vs := [eRat r1, eRat (at' (at' m.P i) k1)]) rfl (vl' vr (vl' vr (vn))) (fun _ => ref02_Sub_ctr hc1 (fun _ hr => ⟨by rw [hr], rfl⟩)) rfl ?_
      refine dC (vs := [eRat x1, eRat r2]) rfl (vl' vr (vl' vr (vn))) (fun _ => ref02_Mul_ctr hc2 (fun _ hr => ⟨by rw [hr], rfl⟩)) rfl ?_
      refine dL (E := ([], [(rg, 5)])) rfl rfl (by simp) (cfo (by kernel_rfl) (cfo (by kernel_rfl) (cfn))) (o_storeB (atL (k := 5) rfl) sz27 (by decide) rfl (w := eRat r3) rfl rfl rfl (v := eRat r3) rfl setL (dN (rZ (mvZ (.int .i64 k1) rfl (wZ rg (o_addG rfl rfl h.1 ?_))))))
      replace h := h.2
      refine asZ (.int .i64 (k1 + 1)) rfl (nZ ?_)
      exact ⟨((k1 + 1), r3), (canon (fc vr (fc vr (fc vr (fc vr (fc vr (fc vr (fn))))))) (sc rfl (sc rfl (sc rfl (sn))))), h⟩
    replace h := h.2 hb1
    refine Vc.exit' (exB_self ?_)
    refine qZ ?_
    have hg2 := h.1
    replace h := h.2
    refine Vc.drawn' mixed rg (fun _ => jcr2) (by kernel_rfl) ?_
    refine dP rfl rfl (o_move (v := eL (AV.int .i64) h1) rfl (dP rfl rfl (o_move (v := .int .i64 i) rfl (dP rfl rfl (o_idxL td76 sz3 (by decide) (fun _ => rfl) rfl rfl hg2 (dP rfl rfl (o_loadI1 sz3 ag3 rfl rfl (v := .int .i64 (at' h1 i)) rfl (dP rfl rfl (o_faP td94 rfl rfl (by rw [sz91]; decide) rfl ?_)))))))))
    refine dL (E := ([(rg, 2)], [])) rfl rfl (by simp) (cfn) (o_loadB1 (atL (k := 2) rfl) sz91 ag91 rfl rfl (v := eL eFormula m.Phases) rfl (dP rfl rfl (o_len td91 rfl (dP rfl rfl (o_lss rfl rfl (dN ?_))))))
    refine Vc.cond' rfl (fun hb2 => ?_) (fun hb2 => ?_)
    · replace h := h.1 hb2
      have hg3 := h.1
      replace h := h.2
      have hg4 := h.1
      replace h := h.2
      have hg5 := h.1
      replace h := h.2
      obtain ⟨r4, hc3, h⟩ := h
      refine Vc.drawn' mixed rg (usOf [(12, pc (eRat r4))]) (by kernel_rfl) ?_
      refine dL (E := ([(rg, 5)], [])) rfl rfl (by simp) (cfn) (o_loadBA (atL (k := 5) rfl) sz27 (by decide) ag27 rfl rfl (v := eRat x1) rfl (dP rfl rfl (o_faP td94 rfl rfl (by rw [sz92]; decide) rfl (dL (E := ([(rg, 2)], [])) rfl rfl (by simp) (cfa (by simp [apartE]) (cfn)) (o_loadB1 (atL (k := 2) rfl) sz92 ag92 rfl rfl (v := eL (eL eRat) m.P) rfl (dP rfl rfl (o_move (v := .int .i64 i) rfl ?_)))))))
      refine dP rfl rfl (o_idxL td92 sz22 (by decide) (fun _ => rfl) rfl rfl hg3 (dP rfl rfl (o_loadI1 sz22 ag22 rfl rfl (v := eL eRat (at' m.P i)) rfl (dP rfl rfl (o_move (v := eL (AV.int .i64) h1) rfl (dP rfl rfl (o_move (v := .int .i64 i) rfl (dP rfl rfl (o_idxL td76 sz3 (by decide) (fun _ => rfl) rfl rfl hg4 (dP rfl rfl (o_loadI1 sz3 ag3 rfl rfl (v := .int .i64 (at' h1 i)) rfl ?_)))))))))))
      refine dP rfl rfl (o_idxL td22 sz27 (by decide) (fun _ => rfl) rfl rfl hg5 (dP rfl rfl (o_loadIA sz27 (by decide) ag27 rfl rfl (v := eRat (at' (at' m.P i) (at' h1 i))) rfl ?_)))
      refine dC (vs := [eRat x1, eRat (at' (at' m.P i) (at' h1 i))]) rfl (vl' vr (vl' vr (vn))) (fun _ => ref02_Mul_ctr hc3 (fun _ hr => ⟨by rw [hr], rfl⟩)) rfl ?_
      refine dL (E := ([], [(rg, 5)])) rfl rfl (by simp) (cfo (by kernel_rfl) (cfo (by kernel_rfl) (cfn))) (o_storeB (atL (k := 5) rfl) sz27 (by decide) rfl (w := eRat r4) rfl rfl rfl (v := eRat r4) rfl setL (dN (rZ (mvZ (.int .i64 i) rfl (wZ rg (o_addG rfl rfl h.1 ?_))))))
      replace h := h.2
      refine asZ (.int .i64 (i + 1)) rfl (nZ ?_)
      exact ⟨((i + 1), r4), (canon (fc vr (fc vr (fc vr (fc vr (fc vr (fn)))))) (sc rfl (sc rfl (sc rfl (sn))))), h⟩
    replace h := h.2 hb2
    refine Vc.skip' ?_
    refine rZ ?_
    refine mvZ (.int .i64 i) rfl (wZ rg (o_addG rfl rfl h.1 ?_))
    replace h := h.2
    refine asZ (.int .i64 (i + 1)) rfl (nZ ?_)
    exact ⟨((i + 1), x1), (canon (fc vr (fc vr (fc vr (fc vr (fc vr (fn)))))) (sc rfl (sc rfl (sc rfl (sn))))), h⟩
  replace h := h.2 hb
  refine Vc.exit' (exB_self ?_)
  refine qZ (rZ (wZ rg (o_loadBA (atL (k := 5) rfl) sz27 (by decide) ag27 rfl rfl (v := eRat x) rfl (wZ rg (o_storeB (atL (k := 4) rfl) sz27 (by decide) rfl (w := eRat x) rfl rfl rfl (v := eRat x) rfl setL (nZ ?_))))))
  refine Vc.ret' ?_
  refine res_cellA (atL (k := 4) rfl) sz27 (by decide) ag27 rfl rfl (v := eRat x) rfl (res_nil ?_)
  show Gives _ (eRat x) _
  exact gives_out hrg (VW.refl _) (hQ _ h)
end Go.Proofs.Ytonbnfgknijpoaa
