/- Walks of functions. Conditions: none. -/
import Derived.Test.YtiamkdpljeemkaaWa
import Derived.Test.YtiamkdpljeemkaaGgTy
import Derived.Test.YtiamkdpljeemkaaK1
import Derived.Test.YtiamkdpljeemkaaK2
import Derived.Test.YtiamkdpljeemkaaK3
/- Walks of functions. Conditions: none. -/
namespace Go.Proofs.Ytiamkdpljeemkaa
open Go.Gg
set_option maxRecDepth 100000
theorem law14_OrderChecks_ctr {o : List Int} {vars : Int} {Q : Bool → Prop} {S : St} {R : AV → St → Prop} (h : law14_OrderChecks_W o vars Q) (hQ : ∀ r1, Q r1 → R (AV.bool r1) S) :
    Ctr Try.prog 11 [eL (AV.int .i64) o, AV.int .i64 vars] S R := by
  unfold law14_OrderChecks_W at h
  refine enterT Try.func11 rfl Try.ntmps11 Try.results11 (by kernel_rfl) (fun rg hrg => ?_)
  refine qZ (rZ (asZ (.bool false) rfl (nZ (qZ ?_))))
  obtain ⟨J, h, hJ⟩ := h
  refine Vc.join' (σ := (Bool)) (fun y => J y) (fun y => envOf [(0, eL (AV.int .i64) o), (1, .int .i64 vars), (13, .bool y)]) (fun y => stL S rg []) (fun x h => ?_) ?_
  · replace h := hJ x h
    show Vc _ _ _ _ (envOf [(0, eL (AV.int .i64) o), (1, .int .i64 vars), (13, .bool x)]) (stL S rg [])
    refine Vc.cond' rfl (fun hb => ?_) (fun hb => ?_)
    · replace h := h.1 hb
      refine qZ (rZ (wZ rg (o_call (us := []) rfl (vn) (law14_awake_ctr h fun r h => (asZ (.bool r) rfl (nZ ?_))))))
      refine Vc.ret' ?_
      refine res_tmp (v := .bool r) rfl (res_nil ?_)
      show Gives _ (.bool r) _
      exact gives_out hrg (VW.refl _) (hQ _ h)
    replace h := h.2 hb
    refine Vc.skip' ?_
    refine qZ (rZ (mvZ (.int .i64 vars) rfl (wZ rg (o_call (us := [AV.int .i64 vars]) rfl (vl' vr (vn)) (order_Natural_ctr h fun r1 r2 h => (mvZ (.tuple [eL (AV.int .i64) r1, eErr 73 r2]) rfl (wZ rg (o_extract (v := eL (AV.int .i64) r1) rfl rfl rfl (wZ rg (o_extract (v := eErr 73 r2) rfl rfl rfl (asZ (eL (AV.int .i64) r1) rfl (asZ (eErr 73 r2) rfl (nZ (qZ (qZ (rZ (mvZ (eL (AV.int .i64) o) rfl ?_)))))))))))))))))
    refine mvZ (.int .i64 vars) rfl (wZ rg (o_call (us := [eL (AV.int .i64) o, AV.int .i64 vars]) rfl (vl' vr (vl' vr (vn))) (order_Check_ctr h fun r3 h => (wZ rg (o_call (us := [eErr 73 r3]) rfl (vl' vr (vn)) (base_Num_ctr h fun r4 h => (mvZ (eL (AV.int .i64) o) rfl (mvZ (.int .i64 vars) rfl ?_))))))))
    refine wZ rg (o_call (us := [eL (AV.int .i64) o, AV.int .i64 vars]) rfl (vl' vr (vl' vr (vn))) (ref14_Check_ctr h fun r5 h => (wZ rg (o_neq rfl rfl (nZ ?_)))))
    refine Vc.cond' rfl (fun hb1 => ?_) (fun hb1 => ?_)
    · replace h := h.1 hb1
      refine qZ (rZ (asZ (.bool false) rfl (nZ ?_)))
      refine Vc.ret' ?_
      refine res_tmp (v := .bool false) rfl (res_nil ?_)
      show Gives _ (.bool false) _
      exact gives_out hrg (VW.refl _) (hQ _ h)
    replace h := h.2 hb1
    refine Vc.skip' ?_
    refine qZ ?_
    obtain ⟨J, h, hJ⟩ := h
    refine Vc.join' (σ := (Bool)) (fun y => J y) (fun y => envOf [(1, .int .i64 vars), (5, eL (AV.int .i64) r1), (6, eErr 73 r2), (33, .bool y)]) (fun y => stL S rg []) (fun x1 h => ?_) ?_
    · replace h := hJ x1 h
      show Vc _ _ _ _ (envOf [(1, .int .i64 vars), (5, eL (AV.int .i64) r1), (6, eErr 73 r2), (33, .bool x1)]) (stL S rg [])
      refine Vc.cond' rfl (fun hb2 => ?_) (fun hb2 => ?_)
      · replace h := h.1 hb2
        refine qZ (rZ (mvZ (eL (AV.int .i64) r1) rfl (wZ rg (o_len td25 rfl (wZ rg (o_eql rfl rfl (mvZ (.bool ((r1.length : Int) == 0)) rfl ?_)))))))
        refine Wl.guard rfl rfl (fun hb3 => ?_) (fun hb3 => ?_)
        · replace h := h.1 hb3
          refine mvZ (eErr 73 r2) rfl ?_
          refine Wl.guardT rfl rfl hb3 ?_
          refine wZ rg (o_call (us := [eErr 73 r2, AV.int .i64 3]) rfl (vl' vr (vl' vr (vn))) (base_Is_ctr h fun r6 h => (wZ rg (o_pickT rfl hb3 (v := .bool r6) rfl (asZ (.bool r6) rfl (nZ ?_))))))
          refine Vc.ret' ?_
          refine res_tmp (v := .bool r6) rfl (res_nil ?_)
          show Gives _ (.bool r6) _
          exact gives_out hrg (VW.refl _) (hQ _ h)
        replace h := h.2 hb3
        refine Wl.guardF rfl rfl hb3 rfl ?_
        refine wZ rg (o_pickF rfl hb3 (v := .bool false) rfl (asZ (.bool false) rfl (nZ ?_)))
        refine Vc.ret' ?_
        refine res_tmp (v := .bool false) rfl (res_nil ?_)
        show Gives _ (.bool false) _
        exact gives_out hrg (VW.refl _) (hQ _ h)
      replace h := h.2 hb2
      refine Vc.skip' ?_
      refine qZ (rZ (mvZ (eErr 73 r2) rfl (wZ rg (o_isnil td32 (E := 73) rfl rfl rfl (mvZ (.bool (Option.isNone r2)) rfl ?_)))))
      refine Wl.guard rfl rfl (fun hb4 => ?_) (fun hb4 => ?_)
      · replace h := h.1 hb4
        refine mvZ (eL (AV.int .i64) r1) rfl ?_
        refine Wl.guardT rfl rfl hb4 ?_
        refine mvZ (.int .i64 vars) rfl ?_
        refine Wl.guardT rfl rfl hb4 ?_
        refine wZ rg (o_call (us := [AV.int .i64 vars]) rfl (vl' vr (vn)) (ref14_Natural_ctr h fun r7 h => ?_))
        refine Wl.guardT rfl rfl hb4 ?_
        refine wZ rg (o_call (us := [eL (AV.int .i64) r1, eL (AV.int .i64) r7]) rfl (vl' vr (vl' vr (vn))) (base_Ints_ctr h fun r8 h => (wZ rg (o_pickT rfl hb4 (v := .bool r8) rfl (asZ (.bool r8) rfl (nZ ?_))))))
        refine Vc.ret' ?_
        refine res_tmp (v := .bool r8) rfl (res_nil ?_)
        show Gives _ (.bool r8) _
        exact gives_out hrg (VW.refl _) (hQ _ h)
      replace h := h.2 hb4
      refine Wl.guardF rfl rfl hb4 rfl ?_
      refine Wl.guardF rfl rfl hb4 rfl ?_
      refine Wl.guardF rfl rfl hb4 rfl ?_
      refine wZ rg (o_pickF rfl hb4 (v := .bool false) rfl (asZ (.bool false) rfl (nZ ?_)))
      refine Vc.ret' ?_
      refine res_tmp (v := .bool false) rfl (res_nil ?_)
      show Gives _ (.bool false) _
      exact gives_out hrg (VW.refl _) (hQ _ h)
    refine rZ ?_
    refine mvZ (.int .i64 vars) rfl (wZ rg (o_lss rfl rfl (mvZ (.bool (decide (vars < 0))) rfl ?_)))
    refine Wl.guard rfl rfl (fun hb5 => ?_) (fun hb5 => ?_)
    · replace h := h.2 hb5
      refine mvZ (.int .i64 vars) rfl ?_
      refine Wl.guardT rfl rfl hb5 ?_
      refine wZ rg (o_gtr rfl rfl (wZ rg (o_pickF rfl hb5 (v := .bool (decide (24 < vars))) rfl (nZ ?_))))
      exact ⟨(decide (24 < vars)), (canon (fc vr (fc vr (fc vr (fc vr (fn))))) (sn)), h⟩
    replace h := h.1 hb5
    refine Wl.guardF rfl rfl hb5 rfl ?_
    refine wZ rg (o_pickT rfl hb5 (v := .bool true) rfl (nZ ?_))
    exact ⟨true, (canon (fc vr (fc vr (fc vr (fc vr (fn))))) (sn)), h⟩
  refine rZ ?_
  refine wZ rg (o_call (us := []) rfl (vn) (law14_awake_ctr h fun r9 h => (wZ rg (o_not rfl (mvZ (.bool (!r9)) rfl ?_)))))
  refine Wl.guard rfl rfl (fun hb6 => ?_) (fun hb6 => ?_)
  · replace h := h.2 hb6
    refine mvZ (eL (AV.int .i64) o) rfl ?_
    refine Wl.guardT rfl rfl hb6 ?_
    refine wZ rg (o_len td25 rfl ?_)
    refine Wl.guardT rfl rfl hb6 ?_
    refine wZ rg (o_gtr rfl rfl (wZ rg (o_pickF rfl hb6 (v := .bool (decide (1000 < (o.length : Int)))) rfl (nZ ?_))))
    exact ⟨(decide (1000 < (o.length : Int))), (canon (fc vr (fc vr (fc vr (fn)))) (sn)), h⟩
  replace h := h.1 hb6
  refine Wl.guardF rfl rfl hb6 rfl ?_
  refine Wl.guardF rfl rfl hb6 rfl ?_
  refine wZ rg (o_pickT rfl hb6 (v := .bool true) rfl (nZ ?_))
  exact ⟨true, (canon (fc vr (fc vr (fc vr (fn)))) (sn)), h⟩
end Go.Proofs.Ytiamkdpljeemkaa
