/- Walks of functions. Conditions: none. -/
import Derived.Test.YtiamkdpljeemkaaWa
import Derived.Test.YtiamkdpljeemkaaGgTy
import Derived.Test.YtiamkdpljeemkaaK1
import Derived.Test.YtiamkdpljeemkaaK5
/- Walks of functions. Conditions: none. -/
namespace Go.Proofs.Ytiamkdpljeemkaa
open Go.Gg
set_option maxRecDepth 100000
theorem truth_Equal_ctr {f : GFormula} {g1 : GFormula} {Q : Bool → Int → Option Int → Prop} {S : St} {R : AV → St → Prop} (h : truth_Equal_W f g1 Q) (hQ : ∀ r1 r2 r3, Q r1 r2 r3 → R (.tuple [AV.bool r1, AV.int .i64 r2, eErr 73 r3]) S) :
    Ctr Try.prog 28 [eFormula f, eFormula g1] S R := by
  unfold truth_Equal_W at h
  refine enterT Try.func28 rfl Try.ntmps28 Try.results28 (by kernel_rfl) (fun rg hrg => ?_)
  refine qZ (rZ (wZ rg (o_box (v := eFormula f) rfl rfl (kk := 3) rfl (by decide) (fun g2 => (wZ rg (o_box (v := eFormula g1) rfl rfl (kk := 3) rfl (by decide) (fun g3 => (asZ (.bool false) rfl (asZ (.int .i64 0) rfl (asZ .niface rfl (nZ (qZ (qZ (rZ (wZ rg (o_loadBA (atL (k := 2) rfl) sz24 (by decide) ag24 rfl rfl (v := eFormula f) rfl ?_))))))))))))))))
  refine wZ rg (o_call (us := [eFormula f]) rfl (vl' vr (vn)) (formula_Check_ctr h fun e h => (asZ (eErr 73 e) rfl (nZ (qZ (rZ (mvZ (eErr 73 e) rfl (wZ rg (o_isnon td32 (E := 73) rfl rfl rfl (nZ ?_))))))))))
  refine Vc.cond' rfl (fun hb => ?_) (fun hb => ?_)
  · replace h := h.1 hb
    refine qZ (rZ (mvZ (eErr 73 e) rfl (asZ (.bool false) rfl (asZ (.int .i64 0) rfl (asZ (eErr 73 e) rfl (nZ ?_))))))
    refine Vc.ret' ?_
    refine res_tmp (v := .bool false) rfl (res_tmp (v := .int .i64 0) rfl (res_tmp (v := eErr 73 e) rfl (res_nil ?_)))
    show Gives _ (.tuple [.bool false, .int .i64 0, eErr 73 e]) _
    exact gives_out hrg (VW.tupL (vl' vr (vl' vr (vl' vr (vn))))) (hQ _ _ _ h)
  replace h := h.2 hb
  refine Vc.skip' ?_
  refine qZ (qZ (rZ (wZ rg (o_loadBA (atL (k := 3) rfl) sz24 (by decide) ag24 rfl rfl (v := eFormula g1) rfl (wZ rg (o_call (us := [eFormula g1]) rfl (vl' vr (vn)) (formula_Check_ctr h fun e1 h => (asZ (eErr 73 e1) rfl (nZ (qZ (rZ (mvZ (eErr 73 e1) rfl (wZ rg (o_isnon td32 (E := 73) rfl rfl rfl (nZ ?_)))))))))))))))
  refine Vc.cond' rfl (fun hb1 => ?_) (fun hb1 => ?_)
  · replace h := h.1 hb1
    refine qZ (rZ (mvZ (eErr 73 e1) rfl (asZ (.bool false) rfl (asZ (.int .i64 0) rfl (asZ (eErr 73 e1) rfl (nZ ?_))))))
    refine Vc.ret' ?_
    refine res_tmp (v := .bool false) rfl (res_tmp (v := .int .i64 0) rfl (res_tmp (v := eErr 73 e1) rfl (res_nil ?_)))
    show Gives _ (.tuple [.bool false, .int .i64 0, eErr 73 e1]) _
    exact gives_out hrg (VW.tupL (vl' vr (vl' vr (vl' vr (vn))))) (hQ _ _ _ h)
  replace h := h.2 hb1
  refine Vc.skip' ?_
  refine qZ (qZ (rZ (wZ rg (o_faP td24 rfl rfl (by rw [sz3]; decide) rfl (wZ rg (o_loadB1 (atL (k := 2) rfl) sz3 ag3 rfl rfl (v := .int .i64 f.Vars) rfl (wZ rg (o_faP td24 rfl rfl (by rw [sz3]; decide) rfl (wZ rg (o_loadB1 (atL (k := 3) rfl) sz3 ag3 rfl rfl (v := .int .i64 g1.Vars) rfl (wZ rg (o_neq rfl rfl (nZ ?_)))))))))))))
  refine Vc.cond' rfl (fun hb2 => ?_) (fun hb2 => ?_)
  · replace h := h.1 hb2
    refine qZ (rZ (wZ rg (o_iface (by rw [td73]; trivial) (v := .int .i64 11) rfl (asZ (.bool false) rfl (asZ (.int .i64 0) rfl (asZ (.iface 73 (.int .i64 11)) rfl (nZ ?_)))))))
    refine Vc.ret' ?_
    refine res_tmp (v := .bool false) rfl (res_tmp (v := .int .i64 0) rfl (res_tmp (v := .iface 73 (.int .i64 11)) rfl (res_nil ?_)))
    show Gives _ (.tuple [.bool false, .int .i64 0, .iface 73 (.int .i64 11)]) _
    exact gives_out hrg (VW.tupL (vl' vr (vl' vr (vl' vr (vn))))) (hQ _ _ _ h)
  replace h := h.2 hb2
  refine Vc.skip' ?_
  refine qZ (rZ (wZ rg (o_loadBA (atL (k := 2) rfl) sz24 (by decide) ag24 rfl rfl (v := eFormula f) rfl (wZ rg (o_call (us := [eFormula f]) rfl (vl' vr (vn)) (truth_Table_ctr h fun r r1 h => (mvZ (.tuple [eL AV.bool r, eErr 73 r1]) rfl (wZ rg (o_extract (v := eL AV.bool r) rfl rfl rfl (wZ rg (o_extract (v := eErr 73 r1) rfl rfl rfl (asZ (eL AV.bool r) rfl (asZ (eErr 73 r1) rfl (nZ (qZ (qZ ?_))))))))))))))))
  refine rZ ?_
  refine mvZ (eErr 73 r1) rfl (wZ rg (o_isnon td32 (E := 73) rfl rfl rfl (nZ ?_)))
  refine Vc.cond' rfl (fun hb3 => ?_) (fun hb3 => ?_)
  · replace h := h.1 hb3
    refine qZ (rZ (mvZ (eErr 73 r1) rfl (asZ (.bool false) rfl (asZ (.int .i64 0) rfl (asZ (eErr 73 r1) rfl (nZ ?_))))))
    refine Vc.ret' ?_
    refine res_tmp (v := .bool false) rfl (res_tmp (v := .int .i64 0) rfl (res_tmp (v := eErr 73 r1) rfl (res_nil ?_)))
    show Gives _ (.tuple [.bool false, .int .i64 0, eErr 73 r1]) _
    exact gives_out hrg (VW.tupL (vl' vr (vl' vr (vl' vr (vn))))) (hQ _ _ _ h)
  replace h := h.2 hb3
  refine Vc.skip' ?_
  refine qZ (rZ (wZ rg (o_loadBA (atL (k := 3) rfl) sz24 (by decide) ag24 rfl rfl (v := eFormula g1) rfl (wZ rg (o_call (us := [eFormula g1]) rfl (vl' vr (vn)) (truth_Table_ctr h fun r2 r3 h => (mvZ (.tuple [eL AV.bool r2, eErr 73 r3]) rfl (wZ rg (o_extract (v := eL AV.bool r2) rfl rfl rfl (wZ rg (o_extract (v := eErr 73 r3) rfl rfl rfl (asZ (eL AV.bool r2) rfl (asZ (eErr 73 r3) rfl (nZ (qZ ?_)))))))))))))))
  refine qZ (rZ (mvZ (eErr 73 r3) rfl (wZ rg (o_isnon td32 (E := 73) rfl rfl rfl (nZ ?_)))))
  refine Vc.cond' rfl (fun hb4 => ?_) (fun hb4 => ?_)
  · replace h := h.1 hb4
    refine qZ (rZ (mvZ (eErr 73 r3) rfl (asZ (.bool false) rfl (asZ (.int .i64 0) rfl (asZ (eErr 73 r3) rfl (nZ ?_))))))
    refine Vc.ret' ?_
    refine res_tmp (v := .bool false) rfl (res_tmp (v := .int .i64 0) rfl (res_tmp (v := eErr 73 r3) rfl (res_nil ?_)))
    show Gives _ (.tuple [.bool false, .int .i64 0, eErr 73 r3]) _
    exact gives_out hrg (VW.tupL (vl' vr (vl' vr (vl' vr (vn))))) (hQ _ _ _ h)
  replace h := h.2 hb4
  refine Vc.skip' ?_
  refine qZ (qZ (rZ (mvZ (eL AV.bool r) rfl (wZ rg (o_len td110 rfl (mvZ (.int .i64 0) rfl (nZ ?_)))))))
  refine Vc.blk ?_
  obtain ⟨I, μ, h0, hI⟩ := h
  refine Vc.loop' (σ := (Int)) (fun y => I y) (fun y => μ y) (fun y => envOf [(9, eL AV.bool r), (11, eL AV.bool r2), (46, .int .i64 (r.length : Int)), (47, .int .i64 y)]) (fun y => stL S rg []) 0 (canon (fc vr (fc vr (fc vr (fc vr (fn))))) (sn)) h0 (fun x h => ?_)
  replace h := hI x h
  show Vc _ _ _ _ (envOf [(9, eL AV.bool r), (11, eL AV.bool r2), (46, .int .i64 (r.length : Int)), (47, .int .i64 x)]) (stL S rg [])
  refine qZ (rZ (wZ rg (o_lss rfl rfl (nZ (qZ ?_)))))
  refine Vc.cond' rfl (fun hb5 => ?_) (fun hb5 => ?_)
  · replace h := h.1 hb5
    refine Vc.skip' ?_
    refine qZ ?_
    refine Vc.blk ?_
    refine qZ (rZ (mvZ (.int .i64 x) rfl (asZ (.int .i64 x) rfl (nZ (qZ ?_)))))
    have hg := h.1
    replace h := h.2
    have hg1 := h.1
    replace h := h.2
    refine Vc.drawn' mixed rg (fun _ => jcr2) (by kernel_rfl) ?_
    refine dP rfl rfl (o_move (v := eL AV.bool r) rfl (dP rfl rfl (o_move (v := .int .i64 x) rfl (dP rfl rfl (o_idxL td110 sz4 (by decide) (fun _ => rfl) rfl rfl hg (dP rfl rfl (o_loadI1 sz4 ag4 rfl rfl (v := .bool (at' r x)) rfl (dP rfl rfl (o_move (v := eL AV.bool r2) rfl (dP rfl rfl (o_move (v := .int .i64 x) rfl (dP rfl rfl (o_idxL td110 sz4 (by decide) (fun _ => rfl) rfl rfl hg1 ?_)))))))))))))
    refine dP rfl rfl (o_loadI1 sz4 ag4 rfl rfl (v := .bool (at' r2 x)) rfl (dP rfl rfl (o_neqB td4 rfl rfl (dN ?_))))
    refine Vc.cond' rfl (fun hb6 => ?_) (fun hb6 => ?_)
    · replace h := h.1 hb6
      refine qZ (rZ (mvZ (.int .i64 x) rfl (asZ (.bool false) rfl (asZ (.int .i64 x) rfl (asZ .niface rfl (nZ ?_))))))
      refine Vc.ret' ?_
      refine res_tmp (v := .bool false) rfl (res_tmp (v := .int .i64 x) rfl (res_tmp (v := .niface) rfl (res_nil ?_)))
      show Gives _ (.tuple [.bool false, .int .i64 x, .niface]) _
      exact gives_out hrg (VW.tupL (vl' vr (vl' vr (vl' vr (vn))))) (hQ _ _ _ h)
    replace h := h.2 hb6
    refine Vc.skip' ?_
    refine rZ ?_
    refine wZ rg (o_addG rfl rfl h.1 ?_)
    replace h := h.2
    refine mvZ (.int .i64 (x + 1)) rfl (nZ ?_)
    exact ⟨(x + 1), (canon (fc vr (fc vr (fc vr (fc vr (fn))))) (sn)), h⟩
  replace h := h.2 hb5
  refine Vc.exit' (exB_self ?_)
  refine qZ (rZ (asZ (.bool true) rfl (asZ (.int .i64 (-1)) rfl (asZ .niface rfl (nZ ?_)))))
  refine Vc.ret' ?_
  refine res_tmp (v := .bool true) rfl (res_tmp (v := .int .i64 (-1)) rfl (res_tmp (v := .niface) rfl (res_nil ?_)))
  show Gives _ (.tuple [.bool true, .int .i64 (-1), .niface]) _
  exact gives_out hrg (VW.tupL (vl' vr (vl' vr (vl' vr (vn))))) (hQ _ _ _ h)
end Go.Proofs.Ytiamkdpljeemkaa
