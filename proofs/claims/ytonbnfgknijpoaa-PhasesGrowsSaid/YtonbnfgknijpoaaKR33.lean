/- Walks of functions. Conditions: none. -/
import Derived.Test.YtonbnfgknijpoaaWR33
import Derived.Test.YtonbnfgknijpoaaGgTy
import Derived.Test.YtonbnfgknijpoaaKFd
namespace Go.Proofs.Ytonbnfgknijpoaa
open Go.Gg
set_option maxRecDepth 100000
theorem ref33_Coherent_ctr {f : GFormula} {Q : Bool → Prop} {S : St} {R : AV → St → Prop} (h : ref33_Coherent_W f Q) (hQ : ∀ r1, Q r1 → R (AV.bool r1) S) :
    Ctr Try.prog 81 [eFormula f] S R := by
  unfold ref33_Coherent_W at h
  refine enterT Try.func81 rfl Try.ntmps81 Try.results81 (by kernel_rfl) (fun rg hrg => ?_)
  refine qZ (rZ (wZ rg (o_box (v := eFormula f) rfl rfl (kk := 3) rfl (by decide) (fun g1 => (asZ (.bool false) rfl (nZ (qZ (rZ (wZ rg (o_loadBA (atL (k := 1) rfl) sz70 (by decide) ag70 rfl rfl (v := eFormula f) rfl (wZ rg (o_call (us := [eFormula f]) rfl (vl' vr (vn)) (ref08_Below_ctr h fun below h => (asZ (eL AV.bool below) rfl (nZ (qZ (qZ (rZ (asZ (.int .i64 0) rfl (nZ ?_))))))))))))))))))))
  refine Vc.blk ?_
  obtain ⟨I, μ, h0, hI⟩ := h
  refine Vc.loop' (σ := (Int)) (fun y => I y) (fun y => μ y) (fun y => envOf [(1, .ptr rg 1 g1 0 0), (3, eL AV.bool below), (4, .int .i64 y)]) (fun y => stL S rg [(1, .arr 3 [eFormula f], g1)]) 0 (canon (fc vr (fc vr (fc vr (fn)))) (sc rfl (sn))) h0 (fun i h => ?_)
  replace h := hI i h
  show Vc _ _ _ _ (envOf [(1, .ptr rg 1 g1 0 0), (3, eL AV.bool below), (4, .int .i64 i)]) (stL S rg [(1, .arr 3 [eFormula f], g1)])
  refine qZ (qZ (rZ (mvZ (.int .i64 i) rfl (wZ rg (o_faP td70 rfl rfl (by rw [sz68]; decide) rfl (wZ rg (o_loadB1 (atL (k := 1) rfl) sz68 ag68 rfl rfl (v := eL eNode f.Nodes) rfl (wZ rg (o_len td68 rfl (wZ rg (o_lss rfl rfl (nZ ?_))))))))))))
  refine Vc.cond' rfl (fun hb => ?_) (fun hb => ?_)
  · replace h := h.1 hb
    refine Vc.skip' ?_
    refine qZ ?_
    refine Vc.blk ?_
    refine qZ (rZ (mvZ (eL AV.bool below) rfl (wZ rg (o_faP td70 rfl rfl (by rw [sz3]; decide) rfl (wZ rg (o_loadB1 (atL (k := 1) rfl) sz3 ag3 rfl rfl (v := .int .i64 f.Vars) rfl (mvZ (.int .i64 i) rfl (wZ rg (o_addG rfl rfl h.1 ?_)))))))))
    replace h := h.2
    refine wZ rg (o_idxL td63 sz4 (by decide) (fun _ => rfl) rfl rfl h.1 ?_)
    replace h := h.2
    refine wZ rg (o_loadI1 sz4 ag4 rfl rfl (v := .bool (at' below (f.Vars + i))) rfl (mvZ (.bool (at' below (f.Vars + i))) rfl ?_))
    refine Wl.guard rfl rfl (fun hb1 => ?_) (fun hb1 => ?_)
    · replace h := h.1 hb1
      refine wZ rg (o_faP td70 rfl rfl (by rw [sz68]; decide) rfl ?_)
      refine Wl.guardT rfl rfl hb1 ?_
      refine wZ rg (o_loadB1 (atL (k := 1) rfl) sz68 ag68 rfl rfl (v := eL eNode f.Nodes) rfl ?_)
      refine Wl.guardT rfl rfl hb1 ?_
      refine mvZ (.int .i64 i) rfl ?_
      refine Wl.guardT rfl rfl hb1 ?_
      refine wZ rg (o_idxL td68 sz78 (by decide) (fun _ => rfl) rfl rfl h.1 ?_)
      replace h := h.2
      refine Wl.guardT rfl rfl hb1 ?_
      refine wZ rg (o_fa td78 rfl rfl (by rw [sz3]; decide) rfl rfl ?_)
      refine Wl.guardT rfl rfl hb1 ?_
      refine wZ rg (o_loadI1 sz3 ag3 rfl rfl (v := .int .i64 ((at' f.Nodes i).Kind)) rfl ?_)
      refine Wl.guardT rfl rfl hb1 ?_
      refine wZ rg (o_eql rfl rfl ?_)
      refine Wl.guardT rfl rfl hb1 ?_
      refine mvZ (.bool ((at' f.Nodes i).Kind == 1)) rfl ?_
      refine Wl.guard rfl rfl (fun hb2 => ?_) (fun hb2 => ?_)
      · replace h := h.2 hb2
        refine wZ rg (o_faP td70 rfl rfl (by rw [sz68]; decide) rfl ?_)
        refine Wl.guardT rfl rfl hb2 ?_
        refine wZ rg (o_loadB1 (atL (k := 1) rfl) sz68 ag68 rfl rfl (v := eL eNode f.Nodes) rfl ?_)
        refine Wl.guardT rfl rfl hb2 ?_
        refine mvZ (.int .i64 i) rfl ?_
        refine Wl.guardT rfl rfl hb2 ?_
        refine wZ rg (o_idxL td68 sz78 (by decide) (fun _ => rfl) rfl rfl h.1 ?_)
        replace h := h.2
        refine Wl.guardT rfl rfl hb2 ?_
        refine wZ rg (o_fa td78 rfl rfl (by rw [sz3]; decide) rfl rfl ?_)
        refine Wl.guardT rfl rfl hb2 ?_
        refine wZ rg (o_loadI1 sz3 ag3 rfl rfl (v := .int .i64 ((at' f.Nodes i).Kind)) rfl ?_)
        refine Wl.guardT rfl rfl hb2 ?_
        refine wZ rg (o_eql rfl rfl ?_)
        refine Wl.guardT rfl rfl hb1 ?_
        refine wZ rg (o_pickF rfl hb2 (v := .bool ((at' f.Nodes i).Kind == 5)) rfl (wZ rg (o_pickT rfl hb1 (v := .bool ((at' f.Nodes i).Kind == 5)) rfl (nZ ?_))))
        refine Vc.cond' rfl (fun hb3 => ?_) (fun hb3 => ?_)
        · replace h := h.1 hb3
          refine qZ (rZ (asZ (.bool false) rfl (nZ ?_)))
          refine Vc.ret' ?_
          refine res_tmp (v := .bool false) rfl (res_nil ?_)
          show Gives _ (.bool false) _
          exact gives_out hrg (VW.refl _) (hQ _ h)
        replace h := h.2 hb3
        refine Vc.skip' ?_
        refine rZ ?_
        refine mvZ (.int .i64 i) rfl (wZ rg (o_addG rfl rfl h.1 ?_))
        replace h := h.2
        refine asZ (.int .i64 (i + 1)) rfl (nZ ?_)
        exact ⟨(i + 1), (canon (fc vr (fc vr (fc vr (fn)))) (sc rfl (sn))), h⟩
      replace h := h.1 hb2
      refine Wl.guardF rfl rfl hb2 rfl ?_
      refine Wl.guardF rfl rfl hb2 rfl ?_
      refine Wl.guardF rfl rfl hb2 rfl ?_
      refine Wl.guardF rfl rfl hb2 rfl ?_
      refine Wl.guardF rfl rfl hb2 rfl ?_
      refine Wl.guardF rfl rfl hb2 rfl ?_
      refine Wl.guardT rfl rfl hb1 ?_
      refine wZ rg (o_pickT rfl hb2 (v := .bool true) rfl (wZ rg (o_pickT rfl hb1 (v := .bool true) rfl (nZ ?_))))
      refine Vc.cond' rfl (fun _ => ?_) (fun hb => Bool.noConfusion hb)
      refine qZ (rZ (asZ (.bool false) rfl (nZ ?_)))
      refine Vc.ret' ?_
      refine res_tmp (v := .bool false) rfl (res_nil ?_)
      show Gives _ (.bool false) _
      exact gives_out hrg (VW.refl _) (hQ _ h)
    replace h := h.2 hb1
    refine Wl.guardF rfl rfl hb1 rfl ?_
    refine Wl.guardF rfl rfl hb1 rfl ?_
    refine Wl.guardF rfl rfl hb1 rfl ?_
    refine Wl.guardF rfl rfl hb1 rfl ?_
    refine Wl.guardF rfl rfl hb1 rfl ?_
    refine Wl.guardF rfl rfl hb1 rfl ?_
    refine Wl.guardF rfl rfl hb1 rfl ?_
    refine Wl.guardU rfl rfl ?_
    refine Wl.guardU rfl rfl ?_
    refine Wl.guardU rfl rfl ?_
    refine Wl.guardU rfl rfl ?_
    refine Wl.guardU rfl rfl ?_
    refine Wl.guardU rfl rfl ?_
    refine Wl.guardU rfl rfl ?_
    refine Wl.guardF rfl rfl hb1 rfl ?_
    refine wZ rg (o_pickF rfl hb1 (v := .bool false) rfl (nZ ?_))
    refine Vc.cond' rfl (fun hb => Bool.noConfusion hb) (fun _ => ?_)
    refine Vc.skip' ?_
    refine rZ ?_
    refine mvZ (.int .i64 i) rfl (wZ rg (o_addG rfl rfl h.1 ?_))
    replace h := h.2
    refine asZ (.int .i64 (i + 1)) rfl (nZ ?_)
    exact ⟨(i + 1), (canon (fc vr (fc vr (fc vr (fn)))) (sc rfl (sn))), h⟩
  replace h := h.2 hb
  refine Vc.exit' (exB_self ?_)
  refine qZ (rZ (asZ (.bool true) rfl (nZ ?_)))
  refine Vc.ret' ?_
  refine res_tmp (v := .bool true) rfl (res_nil ?_)
  show Gives _ (.bool true) _
  exact gives_out hrg (VW.refl _) (hQ _ h)
end Go.Proofs.Ytonbnfgknijpoaa
