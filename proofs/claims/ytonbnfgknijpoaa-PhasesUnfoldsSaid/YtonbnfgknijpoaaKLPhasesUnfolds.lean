/- Walks of functions. Conditions: none. -/
import Derived.Test.YtonbnfgknijpoaaWLPhasesUnfolds
import Derived.Test.YtonbnfgknijpoaaGgTy
import Derived.Test.YtonbnfgknijpoaaKB
import Derived.Test.YtonbnfgknijpoaaKBc
import Derived.Test.YtonbnfgknijpoaaKBo
import Derived.Test.YtonbnfgknijpoaaKH46
import Derived.Test.YtonbnfgknijpoaaKPphases
import Derived.Test.YtonbnfgknijpoaaKR46
import Derived.Test.YtonbnfgknijpoaaKR46c
namespace Go.Proofs.Ytonbnfgknijpoaa
open Go.Gg
set_option maxRecDepth 100000
theorem law46_PhasesUnfolds_ctr {m : GMission} {Q : Bool → Prop} {S : St} {R : AV → St → Prop} (h : law46_PhasesUnfolds_W m Q) (hQ : ∀ r1, Q r1 → R (AV.bool r1) S) :
    Ctr Try.prog 14 [eMission m] S R := by
  unfold law46_PhasesUnfolds_W at h
  refine enterT Try.func14 rfl Try.ntmps14 Try.results14 (by kernel_rfl) (fun rg hrg => ?_)
  refine qZ (rZ (wZ rg (o_box (v := eMission m) rfl rfl (kk := 2) rfl (by decide) (fun g1 => (asZ (.bool false) rfl (nZ (qZ ?_)))))))
  obtain ⟨J, h, hJ⟩ := h
  refine Vc.join' (σ := ((Bool) × (Nat))) (fun y => J y.1) (fun y => envOf [(1, .ptr rg 1 y.2 0 0), (14, .bool y.1)]) (fun y => stL S rg [(1, .arr 2 [eMission m], y.2)]) (fun y h => ?_) ?_
  · obtain ⟨x, g2⟩ := y
    replace h := hJ x h
    show Vc _ _ _ _ (envOf [(1, .ptr rg 1 g2 0 0), (14, .bool x)]) (stL S rg [(1, .arr 2 [eMission m], g2)])
    refine Vc.cond' rfl (fun hb => ?_) (fun hb => ?_)
    · replace h := h.1 hb
      refine qZ (rZ (wZ rg (o_call (us := []) rfl (vn) (law46_awake_ctr h fun r h => (asZ (.bool r) rfl (nZ ?_))))))
      refine Vc.ret' ?_
      refine res_tmp (v := .bool r) rfl (res_nil ?_)
      show Gives _ (.bool r) _
      exact gives_out hrg (VW.refl _) (hQ _ h)
    replace h := h.2 hb
    refine Vc.skip' ?_
    refine qZ (rZ (wZ rg (o_loadBA (atL (k := 1) rfl) sz94 (by decide) ag94 rfl rfl (v := eMission m) rfl (wZ rg (o_call (us := [eMission m]) rfl (vl' vr (vn)) (phases_Unfold_ctr h fun r1 r2 r3 h => (mvZ (.tuple [eFormula r1, eL eRat r2, eErr 107 r3]) rfl (wZ rg (o_extract (v := eFormula r1) rfl rfl rfl (wZ rg (o_extract (v := eL eRat r2) rfl rfl rfl ?_)))))))))))
    refine wZ rg (o_extract (v := eErr 107 r3) rfl rfl rfl (wZ rg (o_alloc zav70 ok70 (kk := 3) rfl (fun g3 => (wZ rg (o_storeB (atL (k := 3) rfl) sz70 (by decide) rfl (w := eFormula r1) rfl rfl rfl (v := eFormula r1) rfl setL (asZ (eL eRat r2) rfl (asZ (eErr 107 r3) rfl (nZ (qZ (rZ (wZ rg (o_loadBA (atL (k := 1) rfl) sz94 (by decide) ag94 rfl rfl (v := eMission m) rfl ?_)))))))))))))
    refine wZ rg (o_call (us := [eMission m]) rfl (vl' vr (vn)) (ref46_Check_ctr h fun code h => (asZ (.int .i64 code) rfl (nZ (qZ (rZ (wZ rg (o_alloc zav70 ok70 (kk := 3) rfl (fun g4 => (nZ (qZ (rZ (asZ .nil rfl (nZ ?_))))))))))))))
    obtain ⟨J, h, hJ⟩ := h
    refine Vc.join' (σ := ((Int × (List GRat) × GFormula) × (Nat × Nat))) (fun y => J y.1) (fun y => envOf [(3, .ptr rg 3 y.2.1 0 0), (4, eL eRat r2), (5, eErr 107 r3), (6, .int .i64 y.1.1), (7, .ptr rg 7 y.2.2 0 0), (8, eL eRat y.1.2.1)]) (fun y => stL S rg [(3, .arr 3 [eFormula r1], y.2.1), (7, .arr 3 [eFormula y.1.2.2], y.2.2)]) (fun y h => ?_) ?_
    · obtain ⟨⟨code1, wp, x1⟩, ⟨g5, g6⟩⟩ := y
      replace h := hJ (code1, wp, x1) h
      show Vc _ _ _ _ (envOf [(3, .ptr rg 3 g5 0 0), (4, eL eRat r2), (5, eErr 107 r3), (6, .int .i64 code1), (7, .ptr rg 7 g6 0 0), (8, eL eRat wp)]) (stL S rg [(3, .arr 3 [eFormula r1], g5), (7, .arr 3 [eFormula x1], g6)])
      refine qZ (rZ (mvZ (eErr 107 r3) rfl (wZ rg (o_call (us := [eErr 107 r3]) rfl (vl' vr (vn)) (base_Num_ctr h fun r4 h => (mvZ (.int .i64 code1) rfl (wZ rg (o_eql rfl rfl (mvZ (.bool (r4 == code1)) rfl ?_)))))))))
      refine Wl.guard rfl rfl (fun hb1 => ?_) (fun hb1 => ?_)
      · replace h := h.1 hb1
        refine wZ rg (o_loadBA (atL (k := 3) rfl) sz70 (by decide) ag70 rfl rfl (v := eFormula r1) rfl ?_)
        refine Wl.guardT rfl rfl hb1 ?_
        refine wZ rg (o_loadBA (atL (k := 7) rfl) sz70 (by decide) ag70 rfl rfl (v := eFormula x1) rfl ?_)
        refine Wl.guardT rfl rfl hb1 ?_
        refine wZ rg (o_call (us := [eFormula r1, eFormula x1]) rfl (vl' vr (vl' vr (vn))) (base_Formula_ctr h fun r5 h => (wZ rg (o_pickT rfl hb1 (v := .bool r5) rfl (mvZ (.bool r5) rfl ?_)))))
        refine Wl.guard rfl rfl (fun hb2 => ?_) (fun hb2 => ?_)
        · replace h := h.1 hb2
          refine mvZ (eL eRat r2) rfl ?_
          refine Wl.guardT rfl rfl hb2 ?_
          refine mvZ (eL eRat wp) rfl ?_
          refine Wl.guardT rfl rfl hb2 ?_
          refine wZ rg (o_call (us := [eL eRat r2, eL eRat wp]) rfl (vl' vr (vl' vr (vn))) (base_Rats_ctr h fun r6 h => (wZ rg (o_pickT rfl hb2 (v := .bool r6) rfl (asZ (.bool r6) rfl (nZ ?_))))))
          refine Vc.ret' ?_
          refine res_tmp (v := .bool r6) rfl (res_nil ?_)
          show Gives _ (.bool r6) _
          exact gives_out hrg (VW.refl _) (hQ _ h)
        replace h := h.2 hb2
        refine Wl.guardF rfl rfl hb2 rfl ?_
        refine Wl.guardF rfl rfl hb2 rfl ?_
        refine wZ rg (o_pickF rfl hb2 (v := .bool false) rfl (asZ (.bool false) rfl (nZ ?_)))
        refine Vc.ret' ?_
        refine res_tmp (v := .bool false) rfl (res_nil ?_)
        show Gives _ (.bool false) _
        exact gives_out hrg (VW.refl _) (hQ _ h)
      replace h := h.2 hb1
      refine Wl.guardF rfl rfl hb1 rfl ?_
      refine Wl.guardF rfl rfl hb1 rfl ?_
      refine wZ rg (o_pickF rfl hb1 (v := .bool false) rfl (mvZ (.bool false) rfl ?_))
      refine Wl.guardF rfl rfl rfl rfl ?_
      refine Wl.guardF rfl rfl rfl rfl ?_
      refine Wl.guardF rfl rfl rfl rfl ?_
      refine wZ rg (o_pickF rfl rfl (v := .bool false) rfl (asZ (.bool false) rfl (nZ ?_)))
      refine Vc.ret' ?_
      refine res_tmp (v := .bool false) rfl (res_nil ?_)
      show Gives _ (.bool false) _
      exact gives_out hrg (VW.refl _) (hQ _ h)
    refine qZ (rZ (mvZ (.int .i64 code) rfl (wZ rg (o_eql rfl rfl (nZ ?_)))))
    refine Vc.cond' rfl (fun hb3 => ?_) (fun hb3 => ?_)
    · replace h := h.1 hb3
      refine rZ ?_
      refine wZ rg (o_loadBA (atL (k := 1) rfl) sz94 (by decide) ag94 rfl rfl (v := eMission m) rfl (wZ rg (o_call (us := [eMission m]) rfl (vl' vr (vn)) (ref46_Unfold_ctr h fun r7 r8 r9 h => (mvZ (.tuple [eFormula r7, eL eRat r8, .int .i64 r9]) rfl (wZ rg (o_extract (v := eFormula r7) rfl rfl rfl (wZ rg (o_extract (v := eL eRat r8) rfl rfl rfl (wZ rg (o_extract (v := .int .i64 r9) rfl rfl rfl ?_)))))))))))
      refine wZ rg (o_storeB (atL (k := 7) rfl) sz70 (by decide) rfl (w := eFormula r7) rfl rfl rfl (v := eFormula r7) rfl setL (asZ (eL eRat r8) rfl (asZ (.int .i64 r9) rfl (nZ ?_))))
      exact ⟨((r9, r8, r7), (g3, g4)), (canon (fc vr (fc vr (fc vr (fc vr (fc vr (fc vr (fn))))))) (sc rfl (sc rfl (sn)))), h⟩
    replace h := h.2 hb3
    refine Vc.skip' ?_
    exact ⟨((code, [], (⟨0, [], 0⟩ : GFormula)), (g3, g4)), (EWk.trans (EWk.ow (k := 7) (o' := .arr 3 [eFormula (⟨0, [], 0⟩ : GFormula)]) rfl (OW.one (VWL.vwc (vl' vr (vl' (VW.nilL) (vl' vr (vn))))))) (canon (fc vr (fc vr (fc vr (fc vr (fc vr (fc (VW.nilL) (fn))))))) (sc rfl (sc rfl (sn))))), h⟩
  refine rZ ?_
  refine wZ rg (o_call (us := []) rfl (vn) (law46_awake_ctr h fun r10 h => (wZ rg (o_not rfl (mvZ (.bool (!r10)) rfl ?_)))))
  refine Wl.guard rfl rfl (fun hb4 => ?_) (fun hb4 => ?_)
  · replace h := h.2 hb4
    refine wZ rg (o_loadBA (atL (k := 1) rfl) sz94 (by decide) ag94 rfl rfl (v := eMission m) rfl ?_)
    refine Wl.guardT rfl rfl hb4 ?_
    refine wZ rg (o_call (us := [eMission m]) rfl (vl' vr (vn)) (law46_large_ctr h fun r11 h => (wZ rg (o_pickF rfl hb4 (v := .bool r11) rfl (nZ ?_)))))
    exact ⟨(r11, g1), (canon (fc vr (fc vr (fn))) (sc rfl (sn))), h⟩
  replace h := h.1 hb4
  refine Wl.guardF rfl rfl hb4 rfl ?_
  refine wZ rg (o_pickT rfl hb4 (v := .bool true) rfl (nZ ?_))
  exact ⟨(true, g1), (canon (fc vr (fc vr (fn))) (sc rfl (sn))), h⟩
end Go.Proofs.Ytonbnfgknijpoaa
