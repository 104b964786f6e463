/- Walks of functions. Conditions: none. -/
import Derived.Test.YtonbnfgknijpoaaWB
import Derived.Test.YtonbnfgknijpoaaGgTy
namespace Go.Proofs.Ytonbnfgknijpoaa
open Go.Gg
set_option maxRecDepth 100000
theorem base_Ints_ctr {a : List Int} {b : List Int} {Q : Bool → Prop} {S : St} {R : AV → St → Prop} (h : base_Ints_W a b Q) (hQ : ∀ r1, Q r1 → R (AV.bool r1) S) :
    Ctr Try.prog 133 [eL (AV.int .i64) a, eL (AV.int .i64) b] S R := by
  unfold base_Ints_W at h
  refine enterT Try.func133 rfl Try.ntmps133 Try.results133 (by kernel_rfl) (fun rg hrg => ?_)
  refine qZ (rZ (asZ (.bool false) rfl (nZ (qZ (qZ (rZ (mvZ (eL (AV.int .i64) a) rfl (wZ rg (o_len td76 rfl (mvZ (eL (AV.int .i64) b) rfl (wZ rg (o_len td76 rfl (wZ rg (o_neq rfl rfl (nZ ?_)))))))))))))))
  refine Vc.cond' rfl (fun hb => ?_) (fun hb => ?_)
  · replace h := h.1 hb
    refine qZ (rZ (asZ (.bool false) rfl (nZ ?_)))
    refine Vc.ret' ?_
    refine res_tmp (v := .bool false) rfl (res_nil ?_)
    show Gives _ (.bool false) _
    exact gives_out hrg (VW.refl _) (hQ _ h)
  replace h := h.2 hb
  refine Vc.skip' ?_
  refine qZ (qZ (rZ (mvZ (eL (AV.int .i64) a) rfl (wZ rg (o_len td76 rfl (mvZ (.int .i64 0) rfl (nZ ?_)))))))
  refine Vc.blk ?_
  obtain ⟨I, μ, h0, hI⟩ := h
  refine Vc.loop' (σ := (Int)) (fun y => I y) (fun y => μ y) (fun y => envOf [(0, eL (AV.int .i64) a), (1, eL (AV.int .i64) b), (12, .int .i64 (a.length : Int)), (13, .int .i64 y)]) (fun y => stL S rg []) 0 (canon (fc vr (fc vr (fc vr (fc vr (fn))))) (sn)) h0 (fun x h => ?_)
  replace h := hI x h
  show Vc _ _ _ _ (envOf [(0, eL (AV.int .i64) a), (1, eL (AV.int .i64) b), (12, .int .i64 (a.length : Int)), (13, .int .i64 x)]) (stL S rg [])
  refine qZ (rZ (wZ rg (o_lss rfl rfl (nZ (qZ ?_)))))
  refine Vc.cond' rfl (fun hb1 => ?_) (fun hb1 => ?_)
  · replace h := h.1 hb1
    refine Vc.skip' ?_
    refine qZ ?_
    refine Vc.blk ?_
    refine qZ (rZ (mvZ (.int .i64 x) rfl (asZ (.int .i64 x) rfl (nZ (qZ ?_)))))
    have hg := h.1
    replace h := h.2
    have hg1 := h.1
    replace h := h.2
    refine Vc.drawn' mixed rg (fun _ => jcr2) (by kernel_rfl) ?_
    refine dP rfl rfl (o_move (v := eL (AV.int .i64) a) rfl (dP rfl rfl (o_move (v := .int .i64 x) rfl (dP rfl rfl (o_idxL td76 sz3 (by decide) (fun _ => rfl) rfl rfl hg (dP rfl rfl (o_loadI1 sz3 ag3 rfl rfl (v := .int .i64 (at' a x)) rfl (dP rfl rfl (o_move (v := eL (AV.int .i64) b) rfl (dP rfl rfl (o_move (v := .int .i64 x) rfl (dP rfl rfl (o_idxL td76 sz3 (by decide) (fun _ => rfl) rfl rfl hg1 ?_)))))))))))))
    refine dP rfl rfl (o_loadI1 sz3 ag3 rfl rfl (v := .int .i64 (at' b x)) rfl (dP rfl rfl (o_neq rfl rfl (dN ?_))))
    refine Vc.cond' rfl (fun hb2 => ?_) (fun hb2 => ?_)
    · replace h := h.1 hb2
      refine qZ (rZ (asZ (.bool false) rfl (nZ ?_)))
      refine Vc.ret' ?_
      refine res_tmp (v := .bool false) rfl (res_nil ?_)
      show Gives _ (.bool false) _
      exact gives_out hrg (VW.refl _) (hQ _ h)
    replace h := h.2 hb2
    refine Vc.skip' ?_
    refine rZ ?_
    refine wZ rg (o_addG rfl rfl h.1 ?_)
    replace h := h.2
    refine mvZ (.int .i64 (x + 1)) rfl (nZ ?_)
    exact ⟨(x + 1), (canon (fc vr (fc vr (fc vr (fc vr (fn))))) (sn)), h⟩
  replace h := h.2 hb1
  refine Vc.exit' (exB_self ?_)
  refine qZ (rZ (asZ (.bool true) rfl (nZ ?_)))
  refine Vc.ret' ?_
  refine res_tmp (v := .bool true) rfl (res_nil ?_)
  show Gives _ (.bool true) _
  exact gives_out hrg (VW.refl _) (hQ _ h)
theorem base_Formula_ctr {a : GFormula} {b : GFormula} {Q : Bool → Prop} {S : St} {R : AV → St → Prop} (h : base_Formula_W a b Q) (hQ : ∀ r1, Q r1 → R (AV.bool r1) S) :
    Ctr Try.prog 64 [eFormula a, eFormula b] S R := by
  unfold base_Formula_W at h
  refine enterT Try.func64 rfl Try.ntmps64 Try.results64 (by kernel_rfl) (fun rg hrg => ?_)
  refine qZ (rZ (wZ rg (o_box (v := eFormula a) rfl rfl (kk := 3) rfl (by decide) (fun g1 => (wZ rg (o_box (v := eFormula b) rfl rfl (kk := 3) rfl (by decide) (fun g2 => (asZ (.bool false) rfl (nZ (qZ (qZ (rZ (wZ rg (o_faP td70 rfl rfl (by rw [sz3]; decide) rfl (wZ rg (o_loadB1 (atL (k := 2) rfl) sz3 ag3 rfl rfl (v := .int .i64 a.Vars) rfl ?_))))))))))))))))
  refine wZ rg (o_faP td70 rfl rfl (by rw [sz3]; decide) rfl (wZ rg (o_loadB1 (atL (k := 3) rfl) sz3 ag3 rfl rfl (v := .int .i64 b.Vars) rfl (wZ rg (o_neq rfl rfl (mvZ (.bool (a.Vars != b.Vars)) rfl ?_))))))
  refine Wl.guard rfl rfl (fun hb => ?_) (fun hb => ?_)
  · replace h := h.2 hb
    refine wZ rg (o_faP td70 rfl rfl (by rw [sz3]; decide) rfl ?_)
    refine Wl.guardT rfl rfl hb ?_
    refine wZ rg (o_loadB1 (atL (k := 2) rfl) sz3 ag3 rfl rfl (v := .int .i64 a.Top) rfl ?_)
    refine Wl.guardT rfl rfl hb ?_
    refine wZ rg (o_faP td70 rfl rfl (by rw [sz3]; decide) rfl ?_)
    refine Wl.guardT rfl rfl hb ?_
    refine wZ rg (o_loadB1 (atL (k := 3) rfl) sz3 ag3 rfl rfl (v := .int .i64 b.Top) rfl ?_)
    refine Wl.guardT rfl rfl hb ?_
    refine wZ rg (o_neq rfl rfl (wZ rg (o_pickF rfl hb (v := .bool (a.Top != b.Top)) rfl (mvZ (.bool (a.Top != b.Top)) rfl ?_))))
    refine Wl.guard rfl rfl (fun hb1 => ?_) (fun hb1 => ?_)
    · replace h := h.2 hb1
      refine wZ rg (o_faP td70 rfl rfl (by rw [sz68]; decide) rfl ?_)
      refine Wl.guardT rfl rfl hb1 ?_
      refine wZ rg (o_loadB1 (atL (k := 2) rfl) sz68 ag68 rfl rfl (v := eL eNode a.Nodes) rfl ?_)
      refine Wl.guardT rfl rfl hb1 ?_
      refine wZ rg (o_len td68 rfl ?_)
      refine Wl.guardT rfl rfl hb1 ?_
      refine wZ rg (o_faP td70 rfl rfl (by rw [sz68]; decide) rfl ?_)
      refine Wl.guardT rfl rfl hb1 ?_
      refine wZ rg (o_loadB1 (atL (k := 3) rfl) sz68 ag68 rfl rfl (v := eL eNode b.Nodes) rfl ?_)
      refine Wl.guardT rfl rfl hb1 ?_
      refine wZ rg (o_len td68 rfl ?_)
      refine Wl.guardT rfl rfl hb1 ?_
      refine wZ rg (o_neq rfl rfl (wZ rg (o_pickF rfl hb1 (v := .bool ((a.Nodes.length : Int) != (b.Nodes.length : Int))) rfl (nZ ?_))))
      refine Vc.cond' rfl (fun hb2 => ?_) (fun hb2 => ?_)
      · replace h := h.1 hb2
        refine qZ (rZ (asZ (.bool false) rfl (nZ ?_)))
        refine Vc.ret' ?_
        refine res_tmp (v := .bool false) rfl (res_nil ?_)
        show Gives _ (.bool false) _
        exact gives_out hrg (VW.refl _) (hQ _ h)
      replace h := h.2 hb2
      refine Vc.skip' ?_
      refine qZ (qZ (rZ (wZ rg (o_faP td70 rfl rfl (by rw [sz68]; decide) rfl (wZ rg (o_loadB1 (atL (k := 2) rfl) sz68 ag68 rfl rfl (v := eL eNode a.Nodes) rfl (wZ rg (o_len td68 rfl (mvZ (.int .i64 0) rfl (nZ ?_))))))))))
      refine Vc.blk ?_
      obtain ⟨I, μ, h0, hI⟩ := h
      refine Vc.loop' (σ := (Int)) (fun y => I y) (fun y => μ y) (fun y => envOf [(2, .ptr rg 2 g1 0 0), (3, .ptr rg 3 g2 0 0), (29, .int .i64 (a.Nodes.length : Int)), (30, .int .i64 y)]) (fun y => stL S rg [(2, .arr 3 [eFormula a], g1), (3, .arr 3 [eFormula b], g2)]) 0 (canon (fc vr (fc vr (fc vr (fc vr (fn))))) (sc rfl (sc rfl (sn)))) h0 (fun x h => ?_)
      replace h := hI x h
      show Vc _ _ _ _ (envOf [(2, .ptr rg 2 g1 0 0), (3, .ptr rg 3 g2 0 0), (29, .int .i64 (a.Nodes.length : Int)), (30, .int .i64 x)]) (stL S rg [(2, .arr 3 [eFormula a], g1), (3, .arr 3 [eFormula b], g2)])
      refine qZ (rZ (wZ rg (o_lss rfl rfl (nZ (qZ ?_)))))
      refine Vc.cond' rfl (fun hb3 => ?_) (fun hb3 => ?_)
      · replace h := h.1 hb3
        refine Vc.skip' ?_
        refine qZ ?_
        refine Vc.blk ?_
        refine qZ (rZ (mvZ (.int .i64 x) rfl (asZ (.int .i64 x) rfl (nZ (qZ ?_)))))
        have hg := h.1
        replace h := h.2
        have hg1 := h.1
        replace h := h.2
        rcases Bool.eq_false_or_eq_true ((at' a.Nodes x).Kind != (at' b.Nodes x).Kind) with hb4 | hb4
        · replace h := h.1 hb4
          refine Vc.drawn' mixed rg (fun _ => jcr2) (by kernel_rfl) ?_
          refine dP rfl rfl (o_faP td70 rfl rfl (by rw [sz68]; decide) rfl (dL (E := ([(rg, 2)], [])) rfl rfl (by simp) (cfn) (o_loadB1 (atL (k := 2) rfl) sz68 ag68 rfl rfl (v := eL eNode a.Nodes) rfl (dP rfl rfl (o_move (v := .int .i64 x) rfl (dP rfl rfl (o_idxL td68 sz78 (by decide) (fun _ => rfl) rfl rfl hg (dP rfl rfl (o_fa td78 rfl rfl (by rw [sz3]; decide) rfl rfl ?_)))))))))
          refine dP rfl rfl (o_loadI1 sz3 ag3 rfl rfl (v := .int .i64 ((at' a.Nodes x).Kind)) rfl (dP rfl rfl (o_faP td70 rfl rfl (by rw [sz68]; decide) rfl (dL (E := ([(rg, 3)], [])) rfl rfl (by simp) (cfa (by simp [apartE]) (cfn)) (o_loadB1 (atL (k := 3) rfl) sz68 ag68 rfl rfl (v := eL eNode b.Nodes) rfl (dP rfl rfl (o_move (v := .int .i64 x) rfl ?_)))))))
          refine dP rfl rfl (o_idxL td68 sz78 (by decide) (fun _ => rfl) rfl rfl hg1 (dP rfl rfl (o_fa td78 rfl rfl (by rw [sz3]; decide) rfl rfl (dP rfl rfl (o_loadI1 sz3 ag3 rfl rfl (v := .int .i64 ((at' b.Nodes x).Kind)) rfl (dP rfl rfl (o_neq rfl rfl (dP rfl rfl (o_move (v := .bool ((at' a.Nodes x).Kind != (at' b.Nodes x).Kind)) rfl ?_)))))))))
          refine dGF rfl rfl hb4 rfl ?_
          refine dGF rfl rfl rfl rfl ?_
          refine dGF rfl rfl rfl rfl ?_
          refine dGF rfl rfl rfl rfl ?_
          refine dGF rfl rfl rfl rfl ?_
          refine dGF rfl rfl rfl rfl ?_
          refine dGF rfl rfl rfl rfl ?_
          refine dGF rfl rfl rfl rfl ?_
          refine dGF rfl rfl rfl rfl ?_
          refine dGF rfl rfl rfl rfl ?_
          refine dGF rfl rfl rfl rfl ?_
          refine dGF rfl rfl rfl rfl ?_
          refine dGF rfl rfl rfl rfl ?_
          refine dP rfl rfl (o_pickT rfl rfl (v := .bool true) rfl (dP rfl rfl (o_move (v := .bool true) rfl ?_)))
          refine dGF rfl rfl rfl rfl ?_
          refine dGF rfl rfl rfl rfl ?_
          refine dGF rfl rfl rfl rfl ?_
          refine dGF rfl rfl rfl rfl ?_
          refine dGF rfl rfl rfl rfl ?_
          refine dGF rfl rfl rfl rfl ?_
          refine dGF rfl rfl rfl rfl ?_
          refine dGF rfl rfl rfl rfl ?_
          refine dGF rfl rfl rfl rfl ?_
          refine dGF rfl rfl rfl rfl ?_
          refine dGF rfl rfl rfl rfl ?_
          refine dGF rfl rfl rfl rfl ?_
          refine dGF rfl rfl rfl rfl ?_
          refine dGF rfl rfl rfl rfl ?_
          refine dP rfl rfl (o_pickT rfl rfl (v := .bool true) rfl (dN ?_))
          refine Vc.cond' rfl (fun _ => ?_) (fun hb => Bool.noConfusion hb)
          refine qZ (rZ (asZ (.bool false) rfl (nZ ?_)))
          refine Vc.ret' ?_
          refine res_tmp (v := .bool false) rfl (res_nil ?_)
          show Gives _ (.bool false) _
          exact gives_out hrg (VW.refl _) (hQ _ h)
        replace h := h.2 hb4
        have hg2 := h.1
        replace h := h.2
        have hg3 := h.1
        replace h := h.2
        rcases Bool.eq_false_or_eq_true ((at' a.Nodes x).K != (at' b.Nodes x).K) with hb5 | hb5
        · replace h := h.1 hb5
          refine Vc.drawn' mixed rg (fun _ => jcr2) (by kernel_rfl) ?_
          refine dP rfl rfl (o_faP td70 rfl rfl (by rw [sz68]; decide) rfl (dL (E := ([(rg, 2)], [])) rfl rfl (by simp) (cfn) (o_loadB1 (atL (k := 2) rfl) sz68 ag68 rfl rfl (v := eL eNode a.Nodes) rfl (dP rfl rfl (o_move (v := .int .i64 x) rfl (dP rfl rfl (o_idxL td68 sz78 (by decide) (fun _ => rfl) rfl rfl hg (dP rfl rfl (o_fa td78 rfl rfl (by rw [sz3]; decide) rfl rfl ?_)))))))))
          refine dP rfl rfl (o_loadI1 sz3 ag3 rfl rfl (v := .int .i64 ((at' a.Nodes x).Kind)) rfl (dP rfl rfl (o_faP td70 rfl rfl (by rw [sz68]; decide) rfl (dL (E := ([(rg, 3)], [])) rfl rfl (by simp) (cfa (by simp [apartE]) (cfn)) (o_loadB1 (atL (k := 3) rfl) sz68 ag68 rfl rfl (v := eL eNode b.Nodes) rfl (dP rfl rfl (o_move (v := .int .i64 x) rfl ?_)))))))
          refine dP rfl rfl (o_idxL td68 sz78 (by decide) (fun _ => rfl) rfl rfl hg1 (dP rfl rfl (o_fa td78 rfl rfl (by rw [sz3]; decide) rfl rfl (dP rfl rfl (o_loadI1 sz3 ag3 rfl rfl (v := .int .i64 ((at' b.Nodes x).Kind)) rfl (dP rfl rfl (o_neq rfl rfl (dP rfl rfl (o_move (v := .bool ((at' a.Nodes x).Kind != (at' b.Nodes x).Kind)) rfl ?_)))))))))
          refine dGT rfl rfl hb4 ?_
          refine dP rfl rfl (o_faP td70 rfl rfl (by rw [sz68]; decide) rfl ?_)
          refine dGT rfl rfl rfl ?_
          refine dL (E := ([(rg, 2)], [])) rfl rfl (by simp) (cfo (by kernel_rfl) (cfo (by kernel_rfl) (cfn))) (o_loadB1 (atL (k := 2) rfl) sz68 ag68 rfl rfl (v := eL eNode a.Nodes) rfl ?_)
          refine dGT rfl rfl rfl ?_
          refine dP rfl rfl (o_move (v := .int .i64 x) rfl ?_)
          refine dGT rfl rfl rfl ?_
          refine dP rfl rfl (o_idxL td68 sz78 (by decide) (fun _ => rfl) rfl rfl hg2 ?_)
          refine dGT rfl rfl rfl ?_
          refine dP rfl rfl (o_fa td78 rfl rfl (by rw [sz3]; decide) rfl rfl ?_)
          refine dGT rfl rfl rfl ?_
          refine dP rfl rfl (o_loadI1 sz3 ag3 rfl rfl (v := .int .i64 ((at' a.Nodes x).K)) rfl ?_)
          refine dGT rfl rfl rfl ?_
          refine dP rfl rfl (o_faP td70 rfl rfl (by rw [sz68]; decide) rfl ?_)
          refine dGT rfl rfl rfl ?_
          refine dL (E := ([(rg, 3)], [])) rfl rfl (by simp) (cfa (by simp [apartE]) (cfo (by kernel_rfl) (cfo (by kernel_rfl) (cfn)))) (o_loadB1 (atL (k := 3) rfl) sz68 ag68 rfl rfl (v := eL eNode b.Nodes) rfl ?_)
          refine dGT rfl rfl rfl ?_
          refine dP rfl rfl (o_move (v := .int .i64 x) rfl ?_)
          refine dGT rfl rfl rfl ?_
          refine dP rfl rfl (o_idxL td68 sz78 (by decide) (fun _ => rfl) rfl rfl hg3 ?_)
          refine dGT rfl rfl rfl ?_
          refine dP rfl rfl (o_fa td78 rfl rfl (by rw [sz3]; decide) rfl rfl ?_)
          refine dGT rfl rfl rfl ?_
          refine dP rfl rfl (o_loadI1 sz3 ag3 rfl rfl (v := .int .i64 ((at' b.Nodes x).K)) rfl ?_)
          refine dGT rfl rfl rfl ?_
          refine dP rfl rfl (o_neq rfl rfl (dP rfl rfl (o_pickF rfl rfl (v := .bool ((at' a.Nodes x).K != (at' b.Nodes x).K)) rfl (dP rfl rfl (o_move (v := .bool ((at' a.Nodes x).K != (at' b.Nodes x).K)) rfl ?_)))))
          refine dGF rfl rfl hb5 rfl ?_
          refine dGF rfl rfl rfl rfl ?_
          refine dGF rfl rfl rfl rfl ?_
          refine dGF rfl rfl rfl rfl ?_
          refine dGF rfl rfl rfl rfl ?_
          refine dGF rfl rfl rfl rfl ?_
          refine dGF rfl rfl rfl rfl ?_
          refine dGF rfl rfl rfl rfl ?_
          refine dGF rfl rfl rfl rfl ?_
          refine dGF rfl rfl rfl rfl ?_
          refine dGF rfl rfl rfl rfl ?_
          refine dGF rfl rfl rfl rfl ?_
          refine dGF rfl rfl rfl rfl ?_
          refine dGF rfl rfl rfl rfl ?_
          refine dP rfl rfl (o_pickT rfl rfl (v := .bool true) rfl (dN ?_))
          refine Vc.cond' rfl (fun _ => ?_) (fun hb => Bool.noConfusion hb)
          refine qZ (rZ (asZ (.bool false) rfl (nZ ?_)))
          refine Vc.ret' ?_
          refine res_tmp (v := .bool false) rfl (res_nil ?_)
          show Gives _ (.bool false) _
          exact gives_out hrg (VW.refl _) (hQ _ h)
        replace h := h.2 hb5
        have hg4 := h.1
        replace h := h.2
        have hg5 := h.1
        replace h := h.2
        obtain ⟨r, hc, h⟩ := h
        refine Vc.drawn' mixed rg (usOf [(41, pc (.bool r))]) (by kernel_rfl) ?_
        refine dP rfl rfl (o_faP td70 rfl rfl (by rw [sz68]; decide) rfl (dL (E := ([(rg, 2)], [])) rfl rfl (by simp) (cfn) (o_loadB1 (atL (k := 2) rfl) sz68 ag68 rfl rfl (v := eL eNode a.Nodes) rfl (dP rfl rfl (o_move (v := .int .i64 x) rfl (dP rfl rfl (o_idxL td68 sz78 (by decide) (fun _ => rfl) rfl rfl hg (dP rfl rfl (o_fa td78 rfl rfl (by rw [sz3]; decide) rfl rfl ?_)))))))))
        refine dP rfl rfl (o_loadI1 sz3 ag3 rfl rfl (v := .int .i64 ((at' a.Nodes x).Kind)) rfl (dP rfl rfl (o_faP td70 rfl rfl (by rw [sz68]; decide) rfl (dL (E := ([(rg, 3)], [])) rfl rfl (by simp) (cfa (by simp [apartE]) (cfn)) (o_loadB1 (atL (k := 3) rfl) sz68 ag68 rfl rfl (v := eL eNode b.Nodes) rfl (dP rfl rfl (o_move (v := .int .i64 x) rfl ?_)))))))
        refine dP rfl rfl (o_idxL td68 sz78 (by decide) (fun _ => rfl) rfl rfl hg1 (dP rfl rfl (o_fa td78 rfl rfl (by rw [sz3]; decide) rfl rfl (dP rfl rfl (o_loadI1 sz3 ag3 rfl rfl (v := .int .i64 ((at' b.Nodes x).Kind)) rfl (dP rfl rfl (o_neq rfl rfl (dP rfl rfl (o_move (v := .bool ((at' a.Nodes x).Kind != (at' b.Nodes x).Kind)) rfl ?_)))))))))
        refine dGT rfl rfl hb4 ?_
        refine dP rfl rfl (o_faP td70 rfl rfl (by rw [sz68]; decide) rfl ?_)
        refine dGT rfl rfl rfl ?_
        refine dL (E := ([(rg, 2)], [])) rfl rfl (by simp) (cfo (by kernel_rfl) (cfo (by kernel_rfl) (cfn))) (o_loadB1 (atL (k := 2) rfl) sz68 ag68 rfl rfl (v := eL eNode a.Nodes) rfl ?_)
        refine dGT rfl rfl rfl ?_
        refine dP rfl rfl (o_move (v := .int .i64 x) rfl ?_)
        refine dGT rfl rfl rfl ?_
        refine dP rfl rfl (o_idxL td68 sz78 (by decide) (fun _ => rfl) rfl rfl hg2 ?_)
        refine dGT rfl rfl rfl ?_
        refine dP rfl rfl (o_fa td78 rfl rfl (by rw [sz3]; decide) rfl rfl ?_)
        refine dGT rfl rfl rfl ?_
        refine dP rfl rfl (o_loadI1 sz3 ag3 rfl rfl (v := .int .i64 ((at' a.Nodes x).K)) rfl ?_)
        refine dGT rfl rfl rfl ?_
        refine dP rfl rfl (o_faP td70 rfl rfl (by rw [sz68]; decide) rfl ?_)
        refine dGT rfl rfl rfl ?_
        refine dL (E := ([(rg, 3)], [])) rfl rfl (by simp) (cfa (by simp [apartE]) (cfo (by kernel_rfl) (cfo (by kernel_rfl) (cfn)))) (o_loadB1 (atL (k := 3) rfl) sz68 ag68 rfl rfl (v := eL eNode b.Nodes) rfl ?_)
        refine dGT rfl rfl rfl ?_
        refine dP rfl rfl (o_move (v := .int .i64 x) rfl ?_)
        refine dGT rfl rfl rfl ?_
        refine dP rfl rfl (o_idxL td68 sz78 (by decide) (fun _ => rfl) rfl rfl hg3 ?_)
        refine dGT rfl rfl rfl ?_
        refine dP rfl rfl (o_fa td78 rfl rfl (by rw [sz3]; decide) rfl rfl ?_)
        refine dGT rfl rfl rfl ?_
        refine dP rfl rfl (o_loadI1 sz3 ag3 rfl rfl (v := .int .i64 ((at' b.Nodes x).K)) rfl ?_)
        refine dGT rfl rfl rfl ?_
        refine dP rfl rfl (o_neq rfl rfl (dP rfl rfl (o_pickF rfl rfl (v := .bool ((at' a.Nodes x).K != (at' b.Nodes x).K)) rfl (dP rfl rfl (o_move (v := .bool ((at' a.Nodes x).K != (at' b.Nodes x).K)) rfl ?_)))))
        refine dGT rfl rfl hb5 ?_
        refine dP rfl rfl (o_faP td70 rfl rfl (by rw [sz68]; decide) rfl ?_)
        refine dGT rfl rfl rfl ?_
        refine dL (E := ([(rg, 2)], [])) rfl rfl (by simp) (cfo (by kernel_rfl) (cfo (by kernel_rfl) (cfo (by kernel_rfl) (cfo (by kernel_rfl) (cfn))))) (o_loadB1 (atL (k := 2) rfl) sz68 ag68 rfl rfl (v := eL eNode a.Nodes) rfl ?_)
        refine dGT rfl rfl rfl ?_
        refine dP rfl rfl (o_move (v := .int .i64 x) rfl ?_)
        refine dGT rfl rfl rfl ?_
        refine dP rfl rfl (o_idxL td68 sz78 (by decide) (fun _ => rfl) rfl rfl hg4 ?_)
        refine dGT rfl rfl rfl ?_
        refine dP rfl rfl (o_fa td78 rfl rfl (by rw [sz76]; decide) rfl rfl ?_)
        refine dGT rfl rfl rfl ?_
        refine dP rfl rfl (o_loadI1 sz76 ag76 rfl rfl (v := eL (AV.int .i64) ((at' a.Nodes x).Args)) rfl ?_)
        refine dGT rfl rfl rfl ?_
        refine dP rfl rfl (o_faP td70 rfl rfl (by rw [sz68]; decide) rfl ?_)
        refine dGT rfl rfl rfl ?_
        refine dL (E := ([(rg, 3)], [])) rfl rfl (by simp) (cfa (by simp [apartE]) (cfo (by kernel_rfl) (cfo (by kernel_rfl) (cfo (by kernel_rfl) (cfo (by kernel_rfl) (cfn)))))) (o_loadB1 (atL (k := 3) rfl) sz68 ag68 rfl rfl (v := eL eNode b.Nodes) rfl ?_)
        refine dGT rfl rfl rfl ?_
        refine dP rfl rfl (o_move (v := .int .i64 x) rfl ?_)
        refine dGT rfl rfl rfl ?_
        refine dP rfl rfl (o_idxL td68 sz78 (by decide) (fun _ => rfl) rfl rfl hg5 ?_)
        refine dGT rfl rfl rfl ?_
        refine dP rfl rfl (o_fa td78 rfl rfl (by rw [sz76]; decide) rfl rfl ?_)
        refine dGT rfl rfl rfl ?_
        refine dP rfl rfl (o_loadI1 sz76 ag76 rfl rfl (v := eL (AV.int .i64) ((at' b.Nodes x).Args)) rfl ?_)
        refine dGT rfl rfl rfl ?_
        refine dC (vs := [eL (AV.int .i64) ((at' a.Nodes x).Args), eL (AV.int .i64) ((at' b.Nodes x).Args)]) rfl (vl' vr (vl' vr (vn))) (fun _ => base_Ints_ctr hc (fun _ hr => ⟨by rw [hr], rfl⟩)) rfl ?_
        refine dGT rfl rfl rfl ?_
        refine dP rfl rfl (o_not rfl (dP rfl rfl (o_pickF rfl rfl (v := .bool (!r)) rfl (dN ?_))))
        refine Vc.cond' rfl (fun hb6 => ?_) (fun hb6 => ?_)
        · replace h := h.1 hb6
          refine qZ (rZ (asZ (.bool false) rfl (nZ ?_)))
          refine Vc.ret' ?_
          refine res_tmp (v := .bool false) rfl (res_nil ?_)
          show Gives _ (.bool false) _
          exact gives_out hrg (VW.refl _) (hQ _ h)
        replace h := h.2 hb6
        refine Vc.skip' ?_
        refine rZ ?_
        refine wZ rg (o_addG rfl rfl h.1 ?_)
        replace h := h.2
        refine mvZ (.int .i64 (x + 1)) rfl (nZ ?_)
        exact ⟨(x + 1), (canon (fc vr (fc vr (fc vr (fc vr (fn))))) (sc rfl (sc rfl (sn)))), h⟩
      replace h := h.2 hb3
      refine Vc.exit' (exB_self ?_)
      refine qZ (rZ (asZ (.bool true) rfl (nZ ?_)))
      refine Vc.ret' ?_
      refine res_tmp (v := .bool true) rfl (res_nil ?_)
      show Gives _ (.bool true) _
      exact gives_out hrg (VW.refl _) (hQ _ h)
    replace h := h.1 hb1
    refine Wl.guardF rfl rfl hb1 rfl ?_
    refine Wl.guardF rfl rfl hb1 rfl ?_
    refine Wl.guardF rfl rfl hb1 rfl ?_
    refine Wl.guardF rfl rfl hb1 rfl ?_
    refine Wl.guardF rfl rfl hb1 rfl ?_
    refine Wl.guardF rfl rfl hb1 rfl ?_
    refine wZ rg (o_pickT rfl hb1 (v := .bool true) rfl (nZ ?_))
    refine Vc.cond' rfl (fun _ => ?_) (fun hb => Bool.noConfusion hb)
    refine qZ (rZ (asZ (.bool false) rfl (nZ ?_)))
    refine Vc.ret' ?_
    refine res_tmp (v := .bool false) rfl (res_nil ?_)
    show Gives _ (.bool false) _
    exact gives_out hrg (VW.refl _) (hQ _ h)
  replace h := h.1 hb
  refine Wl.guardF rfl rfl hb rfl ?_
  refine Wl.guardF rfl rfl hb rfl ?_
  refine Wl.guardF rfl rfl hb rfl ?_
  refine Wl.guardF rfl rfl hb rfl ?_
  refine wZ rg (o_pickT rfl hb (v := .bool true) rfl (mvZ (.bool true) rfl ?_))
  refine Wl.guardF rfl rfl rfl rfl ?_
  refine Wl.guardF rfl rfl rfl rfl ?_
  refine Wl.guardF rfl rfl rfl rfl ?_
  refine Wl.guardF rfl rfl rfl rfl ?_
  refine Wl.guardF rfl rfl rfl rfl ?_
  refine Wl.guardF rfl rfl rfl rfl ?_
  refine Wl.guardF rfl rfl rfl rfl ?_
  refine wZ rg (o_pickT rfl rfl (v := .bool true) rfl (nZ ?_))
  refine Vc.cond' rfl (fun _ => ?_) (fun hb => Bool.noConfusion hb)
  refine qZ (rZ (asZ (.bool false) rfl (nZ ?_)))
  refine Vc.ret' ?_
  refine res_tmp (v := .bool false) rfl (res_nil ?_)
  show Gives _ (.bool false) _
  exact gives_out hrg (VW.refl _) (hQ _ h)
end Go.Proofs.Ytonbnfgknijpoaa
