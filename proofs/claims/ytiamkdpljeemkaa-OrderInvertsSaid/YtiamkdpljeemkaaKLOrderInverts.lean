/- Walks of functions. Conditions: none. -/
import Derived.Test.YtiamkdpljeemkaaWa
import Derived.Test.YtiamkdpljeemkaaGgTy
import Derived.Test.YtiamkdpljeemkaaK1
import Derived.Test.YtiamkdpljeemkaaK2
/- Walks of functions. Conditions: none. -/
namespace Go.Proofs.Ytiamkdpljeemkaa
open Go.Gg
set_option maxRecDepth 100000
theorem law14_OrderInverts_ctr {o : List Int} {Q : Bool → Prop} {S : St} {R : AV → St → Prop} (h : law14_OrderInverts_W o Q) (hQ : ∀ r1, Q r1 → R (AV.bool r1) S) :
    Ctr Try.prog 12 [eL (AV.int .i64) o] S R := by
  unfold law14_OrderInverts_W at h
  refine enterT Try.func12 rfl Try.ntmps12 Try.results12 (by kernel_rfl) (fun rg hrg => ?_)
  refine qZ (rZ (asZ (.bool false) rfl (nZ (qZ ?_))))
  obtain ⟨J, h, hJ⟩ := h
  refine Vc.join' (σ := (Bool)) (fun y => J y) (fun y => envOf [(0, eL (AV.int .i64) o), (13, .bool y)]) (fun y => stL S rg []) (fun x h => ?_) ?_
  · replace h := hJ x h
    show Vc _ _ _ _ (envOf [(0, eL (AV.int .i64) o), (13, .bool x)]) (stL S rg [])
    refine Vc.cond' rfl (fun hb => ?_) (fun hb => ?_)
    · replace h := h.1 hb
      refine qZ (rZ (wZ rg (o_call (us := []) rfl (vn) (law14_awake_ctr h fun r h => (asZ (.bool r) rfl (nZ ?_))))))
      refine Vc.ret' ?_
      refine res_tmp (v := .bool r) rfl (res_nil ?_)
      show Gives _ (.bool r) _
      exact gives_out hrg (VW.refl _) (hQ _ h)
    replace h := h.2 hb
    refine Vc.skip' ?_
    refine qZ (rZ (mvZ (eL (AV.int .i64) o) rfl (wZ rg (o_call (us := [eL (AV.int .i64) o]) rfl (vl' vr (vn)) (order_Positions_ctr h fun r1 r2 h => (mvZ (.tuple [eL (AV.int .i64) r1, eErr 73 r2]) rfl (wZ rg (o_extract (v := eL (AV.int .i64) r1) rfl rfl rfl (wZ rg (o_extract (v := eErr 73 r2) rfl rfl rfl (asZ (eL (AV.int .i64) r1) rfl (asZ (eErr 73 r2) rfl (nZ (qZ (qZ (rZ (mvZ (eErr 73 r2) rfl ?_)))))))))))))))))
    refine wZ rg (o_isnon td32 (E := 73) rfl rfl rfl (mvZ (.bool (Option.isSome r2)) rfl ?_))
    refine Wl.guard rfl rfl (fun hb1 => ?_) (fun hb1 => ?_)
    · replace h := h.2 hb1
      refine mvZ (eL (AV.int .i64) r1) rfl ?_
      refine Wl.guardT rfl rfl hb1 ?_
      refine wZ rg (o_len td25 rfl ?_)
      refine Wl.guardT rfl rfl hb1 ?_
      refine mvZ (eL (AV.int .i64) o) rfl ?_
      refine Wl.guardT rfl rfl hb1 ?_
      refine wZ rg (o_len td25 rfl ?_)
      refine Wl.guardT rfl rfl hb1 ?_
      refine wZ rg (o_neq rfl rfl (wZ rg (o_pickF rfl hb1 (v := .bool ((r1.length : Int) != (o.length : Int))) rfl (nZ ?_))))
      refine Vc.cond' rfl (fun hb2 => ?_) (fun hb2 => ?_)
      · replace h := h.1 hb2
        refine qZ (rZ (asZ (.bool false) rfl (nZ ?_)))
        refine Vc.ret' ?_
        refine res_tmp (v := .bool false) rfl (res_nil ?_)
        show Gives _ (.bool false) _
        exact gives_out hrg (VW.refl _) (hQ _ h)
      replace h := h.2 hb2
      refine Vc.skip' ?_
      refine qZ (rZ (mvZ (eL (AV.int .i64) r1) rfl (wZ rg (o_call (us := [eL (AV.int .i64) r1]) rfl (vl' vr (vn)) (order_Positions_ctr h fun r3 r4 h => (mvZ (.tuple [eL (AV.int .i64) r3, eErr 73 r4]) rfl (wZ rg (o_extract (v := eL (AV.int .i64) r3) rfl rfl rfl (wZ rg (o_extract (v := eErr 73 r4) rfl rfl rfl (asZ (eL (AV.int .i64) r3) rfl (asZ (eErr 73 r4) rfl (nZ (qZ (qZ (rZ ?_))))))))))))))))
      refine asZ (.int .i64 0) rfl (nZ ?_)
      refine Vc.blk ?_
      obtain ⟨I, μ, h0, hI⟩ := h
      refine Vc.loop' (σ := (Int)) (fun y => I y) (fun y => μ y) (fun y => envOf [(0, eL (AV.int .i64) o), (3, eL (AV.int .i64) r1), (4, eErr 73 r4), (5, eL (AV.int .i64) r3), (6, .int .i64 y)]) (fun y => stL S rg []) 0 (canon (fc vr (fc vr (fc vr (fc vr (fc vr (fn)))))) (sn)) h0 (fun i h => ?_)
      replace h := hI i h
      show Vc _ _ _ _ (envOf [(0, eL (AV.int .i64) o), (3, eL (AV.int .i64) r1), (4, eErr 73 r4), (5, eL (AV.int .i64) r3), (6, .int .i64 i)]) (stL S rg [])
      refine qZ (qZ (rZ (mvZ (.int .i64 i) rfl (mvZ (eL (AV.int .i64) o) rfl (wZ rg (o_len td25 rfl (wZ rg (o_lss rfl rfl (nZ ?_)))))))))
      refine Vc.cond' rfl (fun hb3 => ?_) (fun hb3 => ?_)
      · replace h := h.1 hb3
        refine Vc.skip' ?_
        refine qZ ?_
        refine Vc.blk ?_
        refine qZ (rZ (mvZ (eL (AV.int .i64) r1) rfl (mvZ (eL (AV.int .i64) o) rfl (mvZ (.int .i64 i) rfl (wZ rg (o_idxL td25 sz3 (by decide) (fun _ => rfl) rfl rfl h.1 ?_))))))
        replace h := h.2
        refine wZ rg (o_loadI1 sz3 ag3 rfl rfl (v := .int .i64 (at' o i)) rfl (wZ rg (o_idxL td25 sz3 (by decide) (fun _ => rfl) rfl rfl h.1 ?_)))
        replace h := h.2
        refine wZ rg (o_loadI1 sz3 ag3 rfl rfl (v := .int .i64 (at' r1 (at' o i))) rfl (mvZ (.int .i64 i) rfl (wZ rg (o_neq rfl rfl (nZ ?_)))))
        refine Vc.cond' rfl (fun hb4 => ?_) (fun hb4 => ?_)
        · replace h := h.1 hb4
          refine qZ (rZ (asZ (.bool false) rfl (nZ ?_)))
          refine Vc.ret' ?_
          refine res_tmp (v := .bool false) rfl (res_nil ?_)
          show Gives _ (.bool false) _
          exact gives_out hrg (VW.refl _) (hQ _ h)
        replace h := h.2 hb4
        refine Vc.skip' ?_
        refine rZ ?_
        refine mvZ (.int .i64 i) rfl (wZ rg (o_addG rfl rfl h.1 ?_))
        replace h := h.2
        refine asZ (.int .i64 (i + 1)) rfl (nZ ?_)
        exact ⟨(i + 1), (canon (fc vr (fc vr (fc vr (fc vr (fc vr (fn)))))) (sn)), h⟩
      replace h := h.2 hb3
      refine Vc.exit' (exB_self ?_)
      refine qZ (rZ (mvZ (eErr 73 r4) rfl (wZ rg (o_isnil td32 (E := 73) rfl rfl rfl (mvZ (.bool (Option.isNone r4)) rfl ?_)))))
      refine Wl.guard rfl rfl (fun hb5 => ?_) (fun hb5 => ?_)
      · replace h := h.1 hb5
        refine mvZ (eL (AV.int .i64) r3) rfl ?_
        refine Wl.guardT rfl rfl hb5 ?_
        refine mvZ (eL (AV.int .i64) o) rfl ?_
        refine Wl.guardT rfl rfl hb5 ?_
        refine wZ rg (o_call (us := [eL (AV.int .i64) r3, eL (AV.int .i64) o]) rfl (vl' vr (vl' vr (vn))) (base_Ints_ctr h fun r5 h => (wZ rg (o_pickT rfl hb5 (v := .bool r5) rfl (asZ (.bool r5) rfl (nZ ?_))))))
        refine Vc.ret' ?_
        refine res_tmp (v := .bool r5) rfl (res_nil ?_)
        show Gives _ (.bool r5) _
        exact gives_out hrg (VW.refl _) (hQ _ h)
      replace h := h.2 hb5
      refine Wl.guardF rfl rfl hb5 rfl ?_
      refine Wl.guardF rfl rfl hb5 rfl ?_
      refine wZ rg (o_pickF rfl hb5 (v := .bool false) rfl (asZ (.bool false) rfl (nZ ?_)))
      refine Vc.ret' ?_
      refine res_tmp (v := .bool false) rfl (res_nil ?_)
      show Gives _ (.bool false) _
      exact gives_out hrg (VW.refl _) (hQ _ h)
    replace h := h.1 hb1
    refine Wl.guardF rfl rfl hb1 rfl ?_
    refine Wl.guardF rfl rfl hb1 rfl ?_
    refine Wl.guardF rfl rfl hb1 rfl ?_
    refine Wl.guardF rfl rfl hb1 rfl ?_
    refine wZ rg (o_pickT rfl hb1 (v := .bool true) rfl (nZ ?_))
    refine Vc.cond' rfl (fun _ => ?_) (fun hb => Bool.noConfusion hb)
    refine qZ (rZ (asZ (.bool false) rfl (nZ ?_)))
    refine Vc.ret' ?_
    refine res_tmp (v := .bool false) rfl (res_nil ?_)
    show Gives _ (.bool false) _
    exact gives_out hrg (VW.refl _) (hQ _ h)
  refine rZ ?_
  refine wZ rg (o_call (us := []) rfl (vn) (law14_awake_ctr h fun r6 h => (wZ rg (o_not rfl (mvZ (.bool (!r6)) rfl ?_)))))
  refine Wl.guard rfl rfl (fun hb6 => ?_) (fun hb6 => ?_)
  · replace h := h.2 hb6
    refine mvZ (eL (AV.int .i64) o) rfl ?_
    refine Wl.guardT rfl rfl hb6 ?_
    refine wZ rg (o_call (us := [eL (AV.int .i64) o]) rfl (vl' vr (vn)) (law14_valid_ctr h fun r7 h => ?_))
    refine Wl.guardT rfl rfl hb6 ?_
    refine wZ rg (o_not rfl (wZ rg (o_pickF rfl hb6 (v := .bool (!r7)) rfl (nZ ?_))))
    exact ⟨(!r7), (canon (fc vr (fc vr (fn))) (sn)), h⟩
  replace h := h.1 hb6
  refine Wl.guardF rfl rfl hb6 rfl ?_
  refine Wl.guardF rfl rfl hb6 rfl ?_
  refine wZ rg (o_pickT rfl hb6 (v := .bool true) rfl (nZ ?_))
  exact ⟨true, (canon (fc vr (fc vr (fn))) (sn)), h⟩
end Go.Proofs.Ytiamkdpljeemkaa
