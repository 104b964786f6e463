/- Walks of functions. Conditions: none. -/
import Derived.Test.YtonbnfgknijpoaaWLPhasesHolds
import Derived.Test.YtonbnfgknijpoaaGgTy
import Derived.Test.YtonbnfgknijpoaaKB
import Derived.Test.YtonbnfgknijpoaaKF
import Derived.Test.YtonbnfgknijpoaaKH46
import Derived.Test.YtonbnfgknijpoaaKPphases
import Derived.Test.YtonbnfgknijpoaaKR46b
namespace Go.Proofs.Ytonbnfgknijpoaa
open Go.Gg
set_option maxRecDepth 100000
theorem law46_PhasesHolds_ctr {m : GMission} {h1 : List Int} {Q : Bool → Prop} {S : St} {R : AV → St → Prop} (h : law46_PhasesHolds_W m h1 Q) (hQ : ∀ r1, Q r1 → R (AV.bool r1) S) :
    Ctr Try.prog 15 [eMission m, eL (AV.int .i64) h1] S R := by
  unfold law46_PhasesHolds_W at h
  refine enterT Try.func15 rfl Try.ntmps15 Try.results15 (by kernel_rfl) (fun rg hrg => ?_)
  refine qZ (rZ (wZ rg (o_box (v := eMission m) rfl rfl (kk := 2) rfl (by decide) (fun g1 => (asZ (.bool false) rfl (nZ (qZ ?_)))))))
  obtain ⟨J, h, hJ⟩ := h
  refine Vc.join' (σ := ((Bool) × (Nat))) (fun y => J y.1) (fun y => envOf [(1, eL (AV.int .i64) h1), (2, .ptr rg 2 y.2 0 0), (30, .bool y.1)]) (fun y => stL S rg [(2, .arr 2 [eMission m], y.2)]) (fun y h => ?_) ?_
  · obtain ⟨x, g2⟩ := y
    replace h := hJ x h
    show Vc _ _ _ _ (envOf [(1, eL (AV.int .i64) h1), (2, .ptr rg 2 g2 0 0), (30, .bool x)]) (stL S rg [(2, .arr 2 [eMission m], g2)])
    refine Vc.cond' rfl (fun hb => ?_) (fun hb => ?_)
    · replace h := h.1 hb
      refine qZ (rZ (wZ rg (o_call (us := []) rfl (vn) (law46_awake_ctr h fun r h => (asZ (.bool r) rfl (nZ ?_))))))
      refine Vc.ret' ?_
      refine res_tmp (v := .bool r) rfl (res_nil ?_)
      show Gives _ (.bool r) _
      exact gives_out hrg (VW.refl _) (hQ _ h)
    replace h := h.2 hb
    refine Vc.skip' ?_
    refine qZ (rZ (wZ rg (o_loadBA (atL (k := 2) rfl) sz94 (by decide) ag94 rfl rfl (v := eMission m) rfl (wZ rg (o_call (us := [eMission m]) rfl (vl' vr (vn)) (phases_Unfold_ctr h fun r1 r2 r3 h => (mvZ (.tuple [eFormula r1, eL eRat r2, eErr 107 r3]) rfl (wZ rg (o_extract (v := eFormula r1) rfl rfl rfl (wZ rg (o_extract (v := eL eRat r2) rfl rfl rfl ?_)))))))))))
    refine wZ rg (o_extract (v := eErr 107 r3) rfl rfl rfl (wZ rg (o_alloc zav70 ok70 (kk := 3) rfl (fun g3 => (wZ rg (o_storeB (atL (k := 5) rfl) sz70 (by decide) rfl (w := eFormula r1) rfl rfl rfl (v := eFormula r1) rfl setL (asZ (eL eRat r2) rfl (asZ (eErr 107 r3) rfl (nZ (qZ (qZ (rZ (mvZ (eErr 107 r3) rfl (wZ rg (o_isnon td31 (E := 107) rfl rfl rfl (nZ ?_))))))))))))))))
    refine Vc.cond' rfl (fun hb1 => ?_) (fun hb1 => ?_)
    · replace h := h.1 hb1
      refine qZ (rZ (mvZ (eErr 107 r3) rfl (wZ rg (o_call (us := [eErr 107 r3, AV.int .i64 4]) rfl (vl' vr (vl' vr (vn))) (base_Is_ctr h fun r4 h => (asZ (.bool r4) rfl (nZ ?_)))))))
      refine Vc.ret' ?_
      refine res_tmp (v := .bool r4) rfl (res_nil ?_)
      show Gives _ (.bool r4) _
      exact gives_out hrg (VW.refl _) (hQ _ h)
    replace h := h.2 hb1
    refine Vc.skip' ?_
    refine qZ (rZ (wZ rg (o_loadBA (atL (k := 2) rfl) sz94 (by decide) ag94 rfl rfl (v := eMission m) rfl (mvZ (eL (AV.int .i64) h1) rfl (wZ rg (o_call (us := [eMission m, eL (AV.int .i64) h1]) rfl (vl' vr (vl' vr (vn))) (phases_Fails_ctr h fun r5 r6 h => (mvZ (.tuple [.int .i64 r5, eErr 107 r6]) rfl (wZ rg (o_extract (v := .int .i64 r5) rfl rfl rfl (wZ rg (o_extract (v := eErr 107 r6) rfl rfl rfl ?_))))))))))))
    refine asZ (.int .i64 r5) rfl (asZ (eErr 107 r6) rfl (nZ (qZ (rZ (wZ rg (o_loadBA (atL (k := 2) rfl) sz94 (by decide) ag94 rfl rfl (v := eMission m) rfl (mvZ (eL (AV.int .i64) h1) rfl (wZ rg (o_call (us := [eMission m, eL (AV.int .i64) h1]) rfl (vl' vr (vl' vr (vn))) (phases_State_ctr h fun r7 r8 h => (mvZ (.tuple [.int .i64 r7, eErr 107 r8]) rfl ?_)))))))))))
    refine wZ rg (o_extract (v := .int .i64 r7) rfl rfl rfl (wZ rg (o_extract (v := eErr 107 r8) rfl rfl rfl (asZ (.int .i64 r7) rfl (asZ (eErr 107 r8) rfl (nZ (qZ (rZ (wZ rg (o_loadBA (atL (k := 5) rfl) sz70 (by decide) ag70 rfl rfl (v := eFormula r1) rfl (mvZ (.int .i64 r7) rfl (wZ rg (o_call (us := [eFormula r1, AV.int .i64 r7]) rfl (vl' vr (vl' vr (vn))) (formula_Value_ctr h fun r9 r10 h => ?_))))))))))))))
    refine mvZ (.tuple [.bool r9, eErr 107 r10]) rfl (wZ rg (o_extract (v := .bool r9) rfl rfl rfl (wZ rg (o_extract (v := eErr 107 r10) rfl rfl rfl (asZ (.bool r9) rfl (asZ (eErr 107 r10) rfl (nZ (qZ (rZ (mvZ (eErr 107 r6) rfl (wZ rg (o_isnil td31 (E := 107) rfl rfl rfl (mvZ (.bool (Option.isNone r6)) rfl ?_)))))))))))))
    refine Wl.guard rfl rfl (fun hb2 => ?_) (fun hb2 => ?_)
    · replace h := h.1 hb2
      refine mvZ (eErr 107 r8) rfl ?_
      refine Wl.guardT rfl rfl hb2 ?_
      refine wZ rg (o_isnil td31 (E := 107) rfl rfl rfl (wZ rg (o_pickT rfl hb2 (v := .bool (Option.isNone r8)) rfl (mvZ (.bool (Option.isNone r8)) rfl ?_))))
      refine Wl.guard rfl rfl (fun hb3 => ?_) (fun hb3 => ?_)
      · replace h := h.1 hb3
        refine mvZ (eErr 107 r10) rfl ?_
        refine Wl.guardT rfl rfl hb3 ?_
        refine wZ rg (o_isnil td31 (E := 107) rfl rfl rfl (wZ rg (o_pickT rfl hb3 (v := .bool (Option.isNone r10)) rfl (mvZ (.bool (Option.isNone r10)) rfl ?_))))
        refine Wl.guard rfl rfl (fun hb4 => ?_) (fun hb4 => ?_)
        · replace h := h.1 hb4
          refine mvZ (.bool r9) rfl ?_
          refine Wl.guardT rfl rfl hb4 ?_
          refine mvZ (.int .i64 r5) rfl ?_
          refine Wl.guardT rfl rfl hb4 ?_
          refine wZ rg (o_faP td94 rfl rfl (by rw [sz91]; decide) rfl ?_)
          refine Wl.guardT rfl rfl hb4 ?_
          refine wZ rg (o_loadB1 (atL (k := 2) rfl) sz91 ag91 rfl rfl (v := eL eFormula m.Phases) rfl ?_)
          refine Wl.guardT rfl rfl hb4 ?_
          refine wZ rg (o_len td91 rfl ?_)
          refine Wl.guardT rfl rfl hb4 ?_
          refine wZ rg (o_lss rfl rfl ?_)
          refine Wl.guardT rfl rfl hb4 ?_
          refine wZ rg (o_eqlB td4 rfl rfl (wZ rg (o_pickT rfl hb4 (v := .bool (r9 == (decide (r5 < (m.Phases.length : Int))))) rfl (asZ (.bool (r9 == (decide (r5 < (m.Phases.length : Int))))) rfl (nZ ?_)))))
          refine Vc.ret' ?_
          refine res_tmp (v := .bool (r9 == (decide (r5 < (m.Phases.length : Int))))) rfl (res_nil ?_)
          show Gives _ (.bool (r9 == (decide (r5 < (m.Phases.length : Int))))) _
          exact gives_out hrg (VW.refl _) (hQ _ h)
        replace h := h.2 hb4
        refine Wl.guardF rfl rfl hb4 rfl ?_
        refine Wl.guardF rfl rfl hb4 rfl ?_
        refine Wl.guardF rfl rfl hb4 rfl ?_
        refine Wl.guardF rfl rfl hb4 rfl ?_
        refine Wl.guardF rfl rfl hb4 rfl ?_
        refine Wl.guardF rfl rfl hb4 rfl ?_
        refine wZ rg (o_pickF rfl hb4 (v := .bool false) rfl (asZ (.bool false) rfl (nZ ?_)))
        refine Vc.ret' ?_
        refine res_tmp (v := .bool false) rfl (res_nil ?_)
        show Gives _ (.bool false) _
        exact gives_out hrg (VW.refl _) (hQ _ h)
      replace h := h.2 hb3
      refine Wl.guardF rfl rfl hb3 rfl ?_
      refine wZ rg (o_pickF rfl hb3 (v := .bool false) rfl (mvZ (.bool false) rfl ?_))
      refine Wl.guardF rfl rfl rfl rfl ?_
      refine Wl.guardF rfl rfl rfl rfl ?_
      refine Wl.guardF rfl rfl rfl rfl ?_
      refine Wl.guardF rfl rfl rfl rfl ?_
      refine Wl.guardF rfl rfl rfl rfl ?_
      refine Wl.guardF rfl rfl rfl rfl ?_
      refine Wl.guardF rfl rfl rfl rfl ?_
      refine wZ rg (o_pickF rfl rfl (v := .bool false) rfl (asZ (.bool false) rfl (nZ ?_)))
      refine Vc.ret' ?_
      refine res_tmp (v := .bool false) rfl (res_nil ?_)
      show Gives _ (.bool false) _
      exact gives_out hrg (VW.refl _) (hQ _ h)
    replace h := h.2 hb2
    refine Wl.guardF rfl rfl hb2 rfl ?_
    refine wZ rg (o_pickF rfl hb2 (v := .bool false) rfl (mvZ (.bool false) rfl ?_))
    refine Wl.guardF rfl rfl rfl rfl ?_
    refine Wl.guardF rfl rfl rfl rfl ?_
    refine wZ rg (o_pickF rfl rfl (v := .bool false) rfl (mvZ (.bool false) rfl ?_))
    refine Wl.guardF rfl rfl rfl rfl ?_
    refine Wl.guardF rfl rfl rfl rfl ?_
    refine Wl.guardF rfl rfl rfl rfl ?_
    refine Wl.guardF rfl rfl rfl rfl ?_
    refine Wl.guardF rfl rfl rfl rfl ?_
    refine Wl.guardF rfl rfl rfl rfl ?_
    refine Wl.guardF rfl rfl rfl rfl ?_
    refine wZ rg (o_pickF rfl rfl (v := .bool false) rfl (asZ (.bool false) rfl (nZ ?_)))
    refine Vc.ret' ?_
    refine res_tmp (v := .bool false) rfl (res_nil ?_)
    show Gives _ (.bool false) _
    exact gives_out hrg (VW.refl _) (hQ _ h)
  refine rZ ?_
  refine wZ rg (o_call (us := []) rfl (vn) (law46_awake_ctr h fun r11 h => (wZ rg (o_not rfl (mvZ (.bool (!r11)) rfl ?_)))))
  refine Wl.guard rfl rfl (fun hb5 => ?_) (fun hb5 => ?_)
  · replace h := h.2 hb5
    refine wZ rg (o_loadBA (atL (k := 2) rfl) sz94 (by decide) ag94 rfl rfl (v := eMission m) rfl ?_)
    refine Wl.guardT rfl rfl hb5 ?_
    refine wZ rg (o_call (us := [eMission m]) rfl (vl' vr (vn)) (law46_large_ctr h fun r12 h => (wZ rg (o_pickF rfl hb5 (v := .bool r12) rfl (mvZ (.bool r12) rfl ?_)))))
    refine Wl.guard rfl rfl (fun hb6 => ?_) (fun hb6 => ?_)
    · replace h := h.2 hb6
      refine mvZ (eL (AV.int .i64) h1) rfl ?_
      refine Wl.guardT rfl rfl hb6 ?_
      refine wZ rg (o_len td76 rfl ?_)
      refine Wl.guardT rfl rfl hb6 ?_
      refine wZ rg (o_gtr rfl rfl (wZ rg (o_pickF rfl hb6 (v := .bool (decide (100 < (h1.length : Int)))) rfl (mvZ (.bool (decide (100 < (h1.length : Int)))) rfl ?_))))
      refine Wl.guard rfl rfl (fun hb7 => ?_) (fun hb7 => ?_)
      · replace h := h.2 hb7
        refine wZ rg (o_loadBA (atL (k := 2) rfl) sz94 (by decide) ag94 rfl rfl (v := eMission m) rfl ?_)
        refine Wl.guardT rfl rfl hb7 ?_
        refine mvZ (eL (AV.int .i64) h1) rfl ?_
        refine Wl.guardT rfl rfl hb7 ?_
        refine wZ rg (o_call (us := [eMission m, eL (AV.int .i64) h1]) rfl (vl' vr (vl' vr (vn))) (ref46_CheckHistory_ctr h fun r13 h => ?_))
        refine Wl.guardT rfl rfl hb7 ?_
        refine wZ rg (o_neq rfl rfl (wZ rg (o_pickF rfl hb7 (v := .bool (r13 != 0)) rfl (nZ ?_))))
        exact ⟨((r13 != 0), g1), (canon (fc vr (fc vr (fc vr (fn)))) (sc rfl (sn))), h⟩
      replace h := h.1 hb7
      refine Wl.guardF rfl rfl hb7 rfl ?_
      refine Wl.guardF rfl rfl hb7 rfl ?_
      refine Wl.guardF rfl rfl hb7 rfl ?_
      refine wZ rg (o_pickT rfl hb7 (v := .bool true) rfl (nZ ?_))
      exact ⟨(true, g1), (canon (fc vr (fc vr (fc vr (fn)))) (sc rfl (sn))), h⟩
    replace h := h.1 hb6
    refine Wl.guardF rfl rfl hb6 rfl ?_
    refine Wl.guardF rfl rfl hb6 rfl ?_
    refine wZ rg (o_pickT rfl hb6 (v := .bool true) rfl (mvZ (.bool true) rfl ?_))
    refine Wl.guardF rfl rfl rfl rfl ?_
    refine Wl.guardF rfl rfl rfl rfl ?_
    refine Wl.guardF rfl rfl rfl rfl ?_
    refine Wl.guardF rfl rfl rfl rfl ?_
    refine wZ rg (o_pickT rfl rfl (v := .bool true) rfl (nZ ?_))
    exact ⟨(true, g1), (canon (fc vr (fc vr (fc vr (fn)))) (sc rfl (sn))), h⟩
  replace h := h.1 hb5
  refine Wl.guardF rfl rfl hb5 rfl ?_
  refine wZ rg (o_pickT rfl hb5 (v := .bool true) rfl (mvZ (.bool true) rfl ?_))
  refine Wl.guardF rfl rfl rfl rfl ?_
  refine Wl.guardF rfl rfl rfl rfl ?_
  refine Wl.guardF rfl rfl rfl rfl ?_
  refine wZ rg (o_pickT rfl rfl (v := .bool true) rfl (mvZ (.bool true) rfl ?_))
  refine Wl.guardF rfl rfl rfl rfl ?_
  refine Wl.guardF rfl rfl rfl rfl ?_
  refine Wl.guardF rfl rfl rfl rfl ?_
  refine Wl.guardF rfl rfl rfl rfl ?_
  refine wZ rg (o_pickT rfl rfl (v := .bool true) rfl (nZ ?_))
  exact ⟨(true, g1), (canon (fc vr (fc vr (fc vr (fn)))) (sc rfl (sn))), h⟩
end Go.Proofs.Ytonbnfgknijpoaa
