/- Walks of functions. Conditions: none. -/
import Derived.Test.YtonbnfgknijpoaaWR46
import Derived.Test.YtonbnfgknijpoaaGgTy
import Derived.Test.YtonbnfgknijpoaaKR46
namespace Go.Proofs.Ytonbnfgknijpoaa
open Go.Gg
set_option maxRecDepth 100000
theorem ref46_CheckHistory_ctr {m : GMission} {h1 : List Int} {Q : Int → Prop} {S : St} {R : AV → St → Prop} (h : ref46_CheckHistory_W m h1 Q) (hQ : ∀ r1, Q r1 → R (AV.int .i64 r1) S) :
    Ctr Try.prog 61 [eMission m, eL (AV.int .i64) h1] S R := by
  unfold ref46_CheckHistory_W at h
  refine enterT Try.func61 rfl Try.ntmps61 Try.results61 (by kernel_rfl) (fun rg hrg => ?_)
  refine qZ (rZ (wZ rg (o_box (v := eMission m) rfl rfl (kk := 2) rfl (by decide) (fun g1 => (asZ (.int .i64 0) rfl (nZ (qZ (qZ (rZ (wZ rg (o_loadBA (atL (k := 2) rfl) sz94 (by decide) ag94 rfl rfl (v := eMission m) rfl (wZ rg (o_call (us := [eMission m]) rfl (vl' vr (vn)) (ref46_Check_ctr h fun e h => (asZ (.int .i64 e) rfl (nZ (qZ (rZ (mvZ (.int .i64 e) rfl (wZ rg (o_neq rfl rfl (nZ ?_))))))))))))))))))))))
  refine Vc.cond' rfl (fun hb => ?_) (fun hb => ?_)
  · replace h := h.1 hb
    refine qZ (rZ (mvZ (.int .i64 e) rfl (asZ (.int .i64 e) rfl (nZ ?_))))
    refine Vc.ret' ?_
    refine res_tmp (v := .int .i64 e) rfl (res_nil ?_)
    show Gives _ (.int .i64 e) _
    exact gives_out hrg (VW.refl _) (hQ _ h)
  replace h := h.2 hb
  refine Vc.skip' ?_
  refine qZ (qZ (rZ (mvZ (eL (AV.int .i64) h1) rfl (wZ rg (o_len td76 rfl (wZ rg (o_loadBA (atL (k := 2) rfl) sz94 (by decide) ag94 rfl rfl (v := eMission m) rfl (wZ rg (o_call (us := [eMission m]) rfl (vl' vr (vn)) (ref46_Events_ctr h fun r h => (wZ rg (o_neq rfl rfl (nZ ?_)))))))))))))
  refine Vc.cond' rfl (fun hb1 => ?_) (fun hb1 => ?_)
  · replace h := h.1 hb1
    refine qZ (rZ (asZ (.int .i64 11) rfl (nZ ?_)))
    refine Vc.ret' ?_
    refine res_tmp (v := .int .i64 11) rfl (res_nil ?_)
    show Gives _ (.int .i64 11) _
    exact gives_out hrg (VW.refl _) (hQ _ h)
  replace h := h.2 hb1
  refine Vc.skip' ?_
  refine qZ (qZ (rZ (asZ (.int .i64 0) rfl (nZ ?_))))
  refine Vc.blk ?_
  obtain ⟨I, μ, h0, hI⟩ := h
  refine Vc.loop' (σ := (Int)) (fun y => I y) (fun y => μ y) (fun y => envOf [(1, eL (AV.int .i64) h1), (2, .ptr rg 2 g1 0 0), (6, .int .i64 y)]) (fun y => stL S rg [(2, .arr 2 [eMission m], g1)]) 0 (canon (fc vr (fc vr (fc vr (fn)))) (sc rfl (sn))) h0 (fun i h => ?_)
  replace h := hI i h
  show Vc _ _ _ _ (envOf [(1, eL (AV.int .i64) h1), (2, .ptr rg 2 g1 0 0), (6, .int .i64 i)]) (stL S rg [(2, .arr 2 [eMission m], g1)])
  refine qZ (qZ (rZ (mvZ (.int .i64 i) rfl (mvZ (eL (AV.int .i64) h1) rfl (wZ rg (o_len td76 rfl (wZ rg (o_lss rfl rfl (nZ ?_)))))))))
  refine Vc.cond' rfl (fun hb2 => ?_) (fun hb2 => ?_)
  · replace h := h.1 hb2
    refine Vc.skip' ?_
    refine qZ ?_
    refine Vc.blk ?_
    refine qZ ?_
    have hg := h.1
    replace h := h.2
    rcases Bool.eq_false_or_eq_true (decide ((at' h1 i) < 0)) with hb3 | hb3
    · replace h := h.1 hb3
      refine Vc.drawn' mixed rg (fun _ => jcr2) (by kernel_rfl) ?_
      refine dP rfl rfl (o_move (v := eL (AV.int .i64) h1) rfl (dP rfl rfl (o_move (v := .int .i64 i) rfl (dP rfl rfl (o_idxL td76 sz3 (by decide) (fun _ => rfl) rfl rfl hg (dP rfl rfl (o_loadI1 sz3 ag3 rfl rfl (v := .int .i64 (at' h1 i)) rfl (dP rfl rfl (o_lss rfl rfl (dP rfl rfl (o_move (v := .bool (decide ((at' h1 i) < 0))) rfl ?_)))))))))))
      refine dGF rfl rfl hb3 rfl ?_
      refine dGF rfl rfl rfl rfl ?_
      refine dGF rfl rfl rfl rfl ?_
      refine dGF rfl rfl rfl rfl ?_
      refine dGF rfl rfl rfl rfl ?_
      refine dGF rfl rfl rfl rfl ?_
      refine dGF rfl rfl rfl rfl ?_
      refine dGF rfl rfl rfl rfl ?_
      refine dP rfl rfl (o_pickT rfl rfl (v := .bool true) rfl (dN ?_))
      refine Vc.cond' rfl (fun _ => ?_) (fun hb => Bool.noConfusion hb)
      refine qZ (rZ (asZ (.int .i64 3) rfl (nZ ?_)))
      refine Vc.ret' ?_
      refine res_tmp (v := .int .i64 3) rfl (res_nil ?_)
      show Gives _ (.int .i64 3) _
      exact gives_out hrg (VW.refl _) (hQ _ h)
    replace h := h.2 hb3
    have hg1 := h.1
    replace h := h.2
    refine Vc.drawn' mixed rg (fun _ => jcr2) (by kernel_rfl) ?_
    refine dP rfl rfl (o_move (v := eL (AV.int .i64) h1) rfl (dP rfl rfl (o_move (v := .int .i64 i) rfl (dP rfl rfl (o_idxL td76 sz3 (by decide) (fun _ => rfl) rfl rfl hg (dP rfl rfl (o_loadI1 sz3 ag3 rfl rfl (v := .int .i64 (at' h1 i)) rfl (dP rfl rfl (o_lss rfl rfl (dP rfl rfl (o_move (v := .bool (decide ((at' h1 i) < 0))) rfl ?_)))))))))))
    refine dGT rfl rfl hb3 ?_
    refine dP rfl rfl (o_move (v := eL (AV.int .i64) h1) rfl ?_)
    refine dGT rfl rfl rfl ?_
    refine dP rfl rfl (o_move (v := .int .i64 i) rfl ?_)
    refine dGT rfl rfl rfl ?_
    refine dP rfl rfl (o_idxL td76 sz3 (by decide) (fun _ => rfl) rfl rfl hg1 ?_)
    refine dGT rfl rfl rfl ?_
    refine dP rfl rfl (o_loadI1 sz3 ag3 rfl rfl (v := .int .i64 (at' h1 i)) rfl ?_)
    refine dGT rfl rfl rfl ?_
    refine dP rfl rfl (o_faP td94 rfl rfl (by rw [sz91]; decide) rfl ?_)
    refine dGT rfl rfl rfl ?_
    refine dL (E := ([(rg, 2)], [])) rfl rfl (by simp) (cfn) (o_loadB1 (atL (k := 2) rfl) sz91 ag91 rfl rfl (v := eL eFormula m.Phases) rfl ?_)
    refine dGT rfl rfl rfl ?_
    refine dP rfl rfl (o_len td91 rfl ?_)
    refine dGT rfl rfl rfl ?_
    refine dP rfl rfl (o_gtr rfl rfl (dP rfl rfl (o_pickF rfl rfl (v := .bool (decide ((m.Phases.length : Int) < (at' h1 i)))) rfl (dN ?_))))
    refine Vc.cond' rfl (fun hb4 => ?_) (fun hb4 => ?_)
    · replace h := h.1 hb4
      refine qZ (rZ (asZ (.int .i64 3) rfl (nZ ?_)))
      refine Vc.ret' ?_
      refine res_tmp (v := .int .i64 3) rfl (res_nil ?_)
      show Gives _ (.int .i64 3) _
      exact gives_out hrg (VW.refl _) (hQ _ h)
    replace h := h.2 hb4
    refine Vc.skip' ?_
    refine rZ ?_
    refine mvZ (.int .i64 i) rfl (wZ rg (o_addG rfl rfl h.1 ?_))
    replace h := h.2
    refine asZ (.int .i64 (i + 1)) rfl (nZ ?_)
    exact ⟨(i + 1), (canon (fc vr (fc vr (fc vr (fn)))) (sc rfl (sn))), h⟩
  replace h := h.2 hb2
  refine Vc.exit' (exB_self ?_)
  refine qZ (rZ (asZ (.int .i64 0) rfl (nZ ?_)))
  refine Vc.ret' ?_
  refine res_tmp (v := .int .i64 0) rfl (res_nil ?_)
  show Gives _ (.int .i64 0) _
  exact gives_out hrg (VW.refl _) (hQ _ h)
end Go.Proofs.Ytonbnfgknijpoaa
