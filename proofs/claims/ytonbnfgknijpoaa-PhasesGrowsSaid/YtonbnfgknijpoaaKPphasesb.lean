/- Walks of functions. Conditions: none. -/
import Derived.Test.YtonbnfgknijpoaaWPphases
import Derived.Test.YtonbnfgknijpoaaGgTy
import Derived.Test.YtonbnfgknijpoaaKPphases
namespace Go.Proofs.Ytonbnfgknijpoaa
open Go.Gg
set_option maxRecDepth 100000
theorem phases_Failed_ctr {m : GMission} {h1 : List Int} {j : Int} {Q : Int → Option Int → Prop} {S : St} {R : AV → St → Prop} (h : phases_Failed_W m h1 j Q) (hQ : ∀ r1 r2, Q r1 r2 → R (.tuple [AV.int .i64 r1, eErr 107 r2]) S) :
    Ctr Try.prog 76 [eMission m, eL (AV.int .i64) h1, AV.int .i64 j] S R := by
  unfold phases_Failed_W at h
  refine enterT Try.func76 rfl Try.ntmps76 Try.results76 (by kernel_rfl) (fun rg hrg => ?_)
  refine qZ (rZ (wZ rg (o_box (v := eMission m) rfl rfl (kk := 2) rfl (by decide) (fun g1 => (asZ (.int .i64 0) rfl (asZ .niface rfl (nZ (qZ (qZ (rZ (wZ rg (o_loadBA (atL (k := 3) rfl) sz94 (by decide) ag94 rfl rfl (v := eMission m) rfl (mvZ (eL (AV.int .i64) h1) rfl (wZ rg (o_call (us := [eMission m, eL (AV.int .i64) h1]) rfl (vl' vr (vl' vr (vn))) (phases_CheckHistory_ctr h fun err h => ?_))))))))))))))))
  refine asZ (eErr 107 err) rfl (nZ (qZ (rZ (mvZ (eErr 107 err) rfl (wZ rg (o_isnon td31 (E := 107) rfl rfl rfl (nZ ?_)))))))
  refine Vc.cond' rfl (fun hb => ?_) (fun hb => ?_)
  · replace h := h.1 hb
    refine qZ (rZ (mvZ (eErr 107 err) rfl (asZ (.int .i64 0) rfl (asZ (eErr 107 err) rfl (nZ ?_)))))
    refine Vc.ret' ?_
    refine res_tmp (v := .int .i64 0) rfl (res_tmp (v := eErr 107 err) rfl (res_nil ?_))
    show Gives _ (.tuple [.int .i64 0, eErr 107 err]) _
    exact gives_out hrg (VW.tupL (vl' vr (vl' vr (vn)))) (hQ _ _ h)
  replace h := h.2 hb
  refine Vc.skip' ?_
  refine qZ ?_
  obtain ⟨J, h, hJ⟩ := h
  refine Vc.join' (σ := (Bool)) (fun y => J y) (fun y => envOf [(1, eL (AV.int .i64) h1), (2, .int .i64 j), (23, .bool y)]) (fun y => stL S rg []) (fun x h => ?_) ?_
  · replace h := hJ x h
    show Vc _ _ _ _ (envOf [(1, eL (AV.int .i64) h1), (2, .int .i64 j), (23, .bool x)]) (stL S rg [])
    refine Vc.cond' rfl (fun hb1 => ?_) (fun hb1 => ?_)
    · replace h := h.1 hb1
      refine qZ (rZ (wZ rg (o_iface (by rw [td107]; trivial) (v := .int .i64 10) rfl (asZ (.int .i64 0) rfl (asZ (.iface 107 (.int .i64 10)) rfl (nZ ?_))))))
      refine Vc.ret' ?_
      refine res_tmp (v := .int .i64 0) rfl (res_tmp (v := .iface 107 (.int .i64 10)) rfl (res_nil ?_))
      show Gives _ (.tuple [.int .i64 0, .iface 107 (.int .i64 10)]) _
      exact gives_out hrg (VW.tupL (vl' vr (vl' vr (vn)))) (hQ _ _ h)
    replace h := h.2 hb1
    refine Vc.skip' ?_
    refine qZ (rZ (mvZ (eL (AV.int .i64) h1) rfl (mvZ (.int .i64 j) rfl (wZ rg (o_call (us := [eL (AV.int .i64) h1, AV.int .i64 j]) rfl (vl' vr (vl' vr (vn))) (phases_failed_ctr h fun r h => (asZ (.int .i64 r) rfl (asZ .niface rfl (nZ ?_)))))))))
    refine Vc.ret' ?_
    refine res_tmp (v := .int .i64 r) rfl (res_tmp (v := .niface) rfl (res_nil ?_))
    show Gives _ (.tuple [.int .i64 r, .niface]) _
    exact gives_out hrg (VW.tupL (vl' vr (vl' vr (vn)))) (hQ _ _ h)
  refine rZ ?_
  refine mvZ (.int .i64 j) rfl (wZ rg (o_lss rfl rfl (mvZ (.bool (decide (j < 0))) rfl ?_)))
  refine Wl.guard rfl rfl (fun hb2 => ?_) (fun hb2 => ?_)
  · replace h := h.2 hb2
    refine mvZ (.int .i64 j) rfl ?_
    refine Wl.guardT rfl rfl hb2 ?_
    refine wZ rg (o_faP td94 rfl rfl (by rw [sz91]; decide) rfl ?_)
    refine Wl.guardT rfl rfl hb2 ?_
    refine wZ rg (o_loadB1 (atL (k := 3) rfl) sz91 ag91 rfl rfl (v := eL eFormula m.Phases) rfl ?_)
    refine Wl.guardT rfl rfl hb2 ?_
    refine wZ rg (o_len td91 rfl ?_)
    refine Wl.guardT rfl rfl hb2 ?_
    refine wZ rg (o_geq rfl rfl (wZ rg (o_pickF rfl hb2 (v := .bool (decide ((m.Phases.length : Int) ≤ j))) rfl (nZ ?_))))
    exact ⟨(decide ((m.Phases.length : Int) ≤ j)), (canon (fc vr (fc vr (fc vr (fn)))) (sn)), h⟩
  replace h := h.1 hb2
  refine Wl.guardF rfl rfl hb2 rfl ?_
  refine Wl.guardF rfl rfl hb2 rfl ?_
  refine Wl.guardF rfl rfl hb2 rfl ?_
  refine Wl.guardF rfl rfl hb2 rfl ?_
  refine wZ rg (o_pickT rfl hb2 (v := .bool true) rfl (nZ ?_))
  exact ⟨true, (canon (fc vr (fc vr (fc vr (fn)))) (sn)), h⟩
end Go.Proofs.Ytonbnfgknijpoaa
