/- Walks of functions. Conditions: none. -/
import Derived.Test.YtonbnfgknijpoaaWLPhasesReads
import Derived.Test.YtonbnfgknijpoaaGgTy
import Derived.Test.YtonbnfgknijpoaaKB
import Derived.Test.YtonbnfgknijpoaaKH46
import Derived.Test.YtonbnfgknijpoaaKPphases
import Derived.Test.YtonbnfgknijpoaaKPphasesb
import Derived.Test.YtonbnfgknijpoaaKR46b
import Derived.Test.YtonbnfgknijpoaaKR46e
namespace Go.Proofs.Ytonbnfgknijpoaa
open Go.Gg
set_option maxRecDepth 100000
theorem law46_PhasesReads_ctr {m : GMission} {h1 : List Int} {j : Int} {Q : Bool → Prop} {S : St} {R : AV → St → Prop} (h : law46_PhasesReads_W m h1 j Q) (hQ : ∀ r1, Q r1 → R (AV.bool r1) S) :
    Ctr Try.prog 19 [eMission m, eL (AV.int .i64) h1, AV.int .i64 j] S R := by
  unfold law46_PhasesReads_W at h
  refine enterT Try.func19 rfl Try.ntmps19 Try.results19 (by kernel_rfl) (fun rg hrg => ?_)
  refine qZ (rZ (wZ rg (o_box (v := eMission m) rfl rfl (kk := 2) rfl (by decide) (fun g1 => (asZ (.bool false) rfl (nZ (qZ ?_)))))))
  obtain ⟨J, h, hJ⟩ := h
  refine Vc.join' (σ := ((Bool) × (Nat))) (fun y => J y.1) (fun y => envOf [(1, eL (AV.int .i64) h1), (2, .int .i64 j), (3, .ptr rg 3 y.2 0 0), (26, .bool y.1)]) (fun y => stL S rg [(3, .arr 2 [eMission m], y.2)]) (fun y h => ?_) ?_
  · obtain ⟨x, g2⟩ := y
    replace h := hJ x h
    show Vc _ _ _ _ (envOf [(1, eL (AV.int .i64) h1), (2, .int .i64 j), (3, .ptr rg 3 g2 0 0), (26, .bool x)]) (stL S rg [(3, .arr 2 [eMission m], g2)])
    refine Vc.cond' rfl (fun hb => ?_) (fun hb => ?_)
    · replace h := h.1 hb
      refine qZ (rZ (wZ rg (o_call (us := []) rfl (vn) (law46_awake_ctr h fun r h => (asZ (.bool r) rfl (nZ ?_))))))
      refine Vc.ret' ?_
      refine res_tmp (v := .bool r) rfl (res_nil ?_)
      show Gives _ (.bool r) _
      exact gives_out hrg (VW.refl _) (hQ _ h)
    replace h := h.2 hb
    refine Vc.skip' ?_
    refine qZ (rZ (wZ rg (o_loadBA (atL (k := 3) rfl) sz94 (by decide) ag94 rfl rfl (v := eMission m) rfl (mvZ (eL (AV.int .i64) h1) rfl (mvZ (.int .i64 j) rfl (wZ rg (o_call (us := [eMission m, eL (AV.int .i64) h1, AV.int .i64 j]) rfl (vl' vr (vl' vr (vl' vr (vn)))) (phases_Failed_ctr h fun r1 r2 h => (mvZ (.tuple [.int .i64 r1, eErr 107 r2]) rfl (wZ rg (o_extract (v := .int .i64 r1) rfl rfl rfl ?_)))))))))))
    refine wZ rg (o_extract (v := eErr 107 r2) rfl rfl rfl (asZ (.int .i64 r1) rfl (asZ (eErr 107 r2) rfl (nZ (qZ (rZ (wZ rg (o_loadBA (atL (k := 3) rfl) sz94 (by decide) ag94 rfl rfl (v := eMission m) rfl (mvZ (eL (AV.int .i64) h1) rfl (wZ rg (o_call (us := [eMission m, eL (AV.int .i64) h1]) rfl (vl' vr (vl' vr (vn))) (phases_Fails_ctr h fun r3 r4 h => ?_))))))))))))
    refine mvZ (.tuple [.int .i64 r3, eErr 107 r4]) rfl (wZ rg (o_extract (v := .int .i64 r3) rfl rfl rfl (wZ rg (o_extract (v := eErr 107 r4) rfl rfl rfl (asZ (.int .i64 r3) rfl (asZ (eErr 107 r4) rfl (nZ (qZ (rZ (wZ rg (o_loadBA (atL (k := 3) rfl) sz94 (by decide) ag94 rfl rfl (v := eMission m) rfl (mvZ (eL (AV.int .i64) h1) rfl ?_))))))))))))
    refine wZ rg (o_call (us := [eMission m, eL (AV.int .i64) h1]) rfl (vl' vr (vl' vr (vn))) (phases_Weight_ctr h fun r5 r6 h => (mvZ (.tuple [eRat r5, eErr 107 r6]) rfl (wZ rg (o_extract (v := eRat r5) rfl rfl rfl (wZ rg (o_extract (v := eErr 107 r6) rfl rfl rfl (wZ rg (o_alloc zav27 ok27 (kk := 3) rfl (fun g3 => ?_))))))))))
    refine wZ rg (o_storeB (atL (k := 11) rfl) sz27 (by decide) rfl (w := eRat r5) rfl rfl rfl (v := eRat r5) rfl setL (asZ (eErr 107 r6) rfl (nZ (qZ (rZ (wZ rg (o_loadBA (atL (k := 3) rfl) sz94 (by decide) ag94 rfl rfl (v := eMission m) rfl (mvZ (eL (AV.int .i64) h1) rfl (wZ rg (o_call (us := [eMission m, eL (AV.int .i64) h1]) rfl (vl' vr (vl' vr (vn))) (phases_State_ctr h fun r7 r8 h => ?_)))))))))))
    refine mvZ (.tuple [.int .i64 r7, eErr 107 r8]) rfl (wZ rg (o_extract (v := .int .i64 r7) rfl rfl rfl (wZ rg (o_extract (v := eErr 107 r8) rfl rfl rfl (asZ (.int .i64 r7) rfl (asZ (eErr 107 r8) rfl (nZ (qZ (rZ (wZ rg (o_loadBA (atL (k := 3) rfl) sz94 (by decide) ag94 rfl rfl (v := eMission m) rfl (mvZ (eL (AV.int .i64) h1) rfl ?_))))))))))))
    refine wZ rg (o_call (us := [eMission m, eL (AV.int .i64) h1]) rfl (vl' vr (vl' vr (vn))) (ref46_CheckHistory_ctr h fun code h => (asZ (.int .i64 code) rfl (nZ (qZ (qZ (rZ (mvZ (.int .i64 code) rfl (wZ rg (o_neq rfl rfl (nZ ?_)))))))))))
    refine Vc.cond' rfl (fun hb1 => ?_) (fun hb1 => ?_)
    · replace h := h.1 hb1
      refine qZ (rZ (mvZ (.int .i64 r1) rfl (wZ rg (o_eql rfl rfl (mvZ (.bool (r1 == 0)) rfl ?_)))))
      refine Wl.guard rfl rfl (fun hb2 => ?_) (fun hb2 => ?_)
      · replace h := h.1 hb2
        refine mvZ (.int .i64 r3) rfl ?_
        refine Wl.guardT rfl rfl hb2 ?_
        refine wZ rg (o_eql rfl rfl (wZ rg (o_pickT rfl hb2 (v := .bool (r3 == 0)) rfl (mvZ (.bool (r3 == 0)) rfl ?_))))
        refine Wl.guard rfl rfl (fun hb3 => ?_) (fun hb3 => ?_)
        · replace h := h.1 hb3
          refine mvZ (.int .i64 r7) rfl ?_
          refine Wl.guardT rfl rfl hb3 ?_
          refine wZ rg (o_eql rfl rfl (wZ rg (o_pickT rfl hb3 (v := .bool (r7 == 0)) rfl (mvZ (.bool (r7 == 0)) rfl ?_))))
          refine Wl.guard rfl rfl (fun hb4 => ?_) (fun hb4 => ?_)
          · replace h := h.1 hb4
            refine wZ rg (o_loadBA (atL (k := 11) rfl) sz27 (by decide) ag27 rfl rfl (v := eRat r5) rfl ?_)
            refine Wl.guardT rfl rfl hb4 ?_
            refine wZ rg (o_build td27 zav27 bok27 szs27 sz27 (ps := []) rfl rfl (v := .agg [.bool false, .nil, .nil]) rfl ?_)
            refine Wl.guardT rfl rfl hb4 ?_
            refine wZ rg (o_call (us := [eRat r5, eRat (⟨false, [], []⟩ : GRat)]) rfl (vl' vr (vl' (VW.aggL (vl' vr (vl' (VW.nilL) (vl' (VW.nilL) (vn))))) (vn))) (base_Rat_ctr h fun r9 h => (wZ rg (o_pickT rfl hb4 (v := .bool r9) rfl (mvZ (.bool r9) rfl ?_)))))
            refine Wl.guard rfl rfl (fun hb5 => ?_) (fun hb5 => ?_)
            · replace h := h.1 hb5
              refine mvZ (eErr 107 r2) rfl ?_
              refine Wl.guardT rfl rfl hb5 ?_
              refine wZ rg (o_call (us := [eErr 107 r2]) rfl (vl' vr (vn)) (base_Num_ctr h fun r10 h => ?_))
              refine Wl.guardT rfl rfl hb5 ?_
              refine mvZ (.int .i64 code) rfl ?_
              refine Wl.guardT rfl rfl hb5 ?_
              refine wZ rg (o_eql rfl rfl (wZ rg (o_pickT rfl hb5 (v := .bool (r10 == code)) rfl (mvZ (.bool (r10 == code)) rfl ?_))))
              refine Wl.guard rfl rfl (fun hb6 => ?_) (fun hb6 => ?_)
              · replace h := h.1 hb6
                refine mvZ (eErr 107 r4) rfl ?_
                refine Wl.guardT rfl rfl hb6 ?_
                refine wZ rg (o_call (us := [eErr 107 r4]) rfl (vl' vr (vn)) (base_Num_ctr h fun r11 h => ?_))
                refine Wl.guardT rfl rfl hb6 ?_
                refine mvZ (.int .i64 code) rfl ?_
                refine Wl.guardT rfl rfl hb6 ?_
                refine wZ rg (o_eql rfl rfl (wZ rg (o_pickT rfl hb6 (v := .bool (r11 == code)) rfl (mvZ (.bool (r11 == code)) rfl ?_))))
                refine Wl.guard rfl rfl (fun hb7 => ?_) (fun hb7 => ?_)
                · replace h := h.1 hb7
                  refine mvZ (eErr 107 r6) rfl ?_
                  refine Wl.guardT rfl rfl hb7 ?_
                  refine wZ rg (o_call (us := [eErr 107 r6]) rfl (vl' vr (vn)) (base_Num_ctr h fun r12 h => ?_))
                  refine Wl.guardT rfl rfl hb7 ?_
                  refine mvZ (.int .i64 code) rfl ?_
                  refine Wl.guardT rfl rfl hb7 ?_
                  refine wZ rg (o_eql rfl rfl (wZ rg (o_pickT rfl hb7 (v := .bool (r12 == code)) rfl (mvZ (.bool (r12 == code)) rfl ?_))))
                  refine Wl.guard rfl rfl (fun hb8 => ?_) (fun hb8 => ?_)
                  · replace h := h.1 hb8
                    refine mvZ (eErr 107 r8) rfl ?_
                    refine Wl.guardT rfl rfl hb8 ?_
                    refine wZ rg (o_call (us := [eErr 107 r8]) rfl (vl' vr (vn)) (base_Num_ctr h fun r13 h => ?_))
                    refine Wl.guardT rfl rfl hb8 ?_
                    refine mvZ (.int .i64 code) rfl ?_
                    refine Wl.guardT rfl rfl hb8 ?_
                    refine wZ rg (o_eql rfl rfl (wZ rg (o_pickT rfl hb8 (v := .bool (r13 == code)) rfl (asZ (.bool (r13 == code)) rfl (nZ ?_)))))
                    refine Vc.ret' ?_
                    refine res_tmp (v := .bool (r13 == code)) rfl (res_nil ?_)
                    show Gives _ (.bool (r13 == code)) _
                    exact gives_out hrg (VW.refl _) (hQ _ h)
                  replace h := h.2 hb8
                  refine Wl.guardF rfl rfl hb8 rfl ?_
                  refine Wl.guardF rfl rfl hb8 rfl ?_
                  refine Wl.guardF rfl rfl hb8 rfl ?_
                  refine wZ rg (o_pickF rfl hb8 (v := .bool false) rfl (asZ (.bool false) rfl (nZ ?_)))
                  refine Vc.ret' ?_
                  refine res_tmp (v := .bool false) rfl (res_nil ?_)
                  show Gives _ (.bool false) _
                  exact gives_out hrg (VW.refl _) (hQ _ h)
                replace h := h.2 hb7
                refine Wl.guardF rfl rfl hb7 rfl ?_
                refine Wl.guardF rfl rfl hb7 rfl ?_
                refine Wl.guardF rfl rfl hb7 rfl ?_
                refine wZ rg (o_pickF rfl hb7 (v := .bool false) rfl (mvZ (.bool false) rfl ?_))
                refine Wl.guardF rfl rfl rfl rfl ?_
                refine Wl.guardF rfl rfl rfl rfl ?_
                refine Wl.guardF rfl rfl rfl rfl ?_
                refine Wl.guardF rfl rfl rfl rfl ?_
                refine wZ rg (o_pickF rfl rfl (v := .bool false) rfl (asZ (.bool false) rfl (nZ ?_)))
                refine Vc.ret' ?_
                refine res_tmp (v := .bool false) rfl (res_nil ?_)
                show Gives _ (.bool false) _
                exact gives_out hrg (VW.refl _) (hQ _ h)
              replace h := h.2 hb6
              refine Wl.guardF rfl rfl hb6 rfl ?_
              refine Wl.guardF rfl rfl hb6 rfl ?_
              refine Wl.guardF rfl rfl hb6 rfl ?_
              refine wZ rg (o_pickF rfl hb6 (v := .bool false) rfl (mvZ (.bool false) rfl ?_))
              refine Wl.guardF rfl rfl rfl rfl ?_
              refine Wl.guardF rfl rfl rfl rfl ?_
              refine Wl.guardF rfl rfl rfl rfl ?_
              refine Wl.guardF rfl rfl rfl rfl ?_
              refine wZ rg (o_pickF rfl rfl (v := .bool false) rfl (mvZ (.bool false) rfl ?_))
              refine Wl.guardF rfl rfl rfl rfl ?_
              refine Wl.guardF rfl rfl rfl rfl ?_
              refine Wl.guardF rfl rfl rfl rfl ?_
              refine Wl.guardF rfl rfl rfl rfl ?_
              refine wZ rg (o_pickF rfl rfl (v := .bool false) rfl (asZ (.bool false) rfl (nZ ?_)))
              refine Vc.ret' ?_
              refine res_tmp (v := .bool false) rfl (res_nil ?_)
              show Gives _ (.bool false) _
              exact gives_out hrg (VW.refl _) (hQ _ h)
            replace h := h.2 hb5
            refine Wl.guardF rfl rfl hb5 rfl ?_
            refine Wl.guardF rfl rfl hb5 rfl ?_
            refine Wl.guardF rfl rfl hb5 rfl ?_
            refine wZ rg (o_pickF rfl hb5 (v := .bool false) rfl (mvZ (.bool false) rfl ?_))
            refine Wl.guardF rfl rfl rfl rfl ?_
            refine Wl.guardF rfl rfl rfl rfl ?_
            refine Wl.guardF rfl rfl rfl rfl ?_
            refine Wl.guardF rfl rfl rfl rfl ?_
            refine wZ rg (o_pickF rfl rfl (v := .bool false) rfl (mvZ (.bool false) rfl ?_))
            refine Wl.guardF rfl rfl rfl rfl ?_
            refine Wl.guardF rfl rfl rfl rfl ?_
            refine Wl.guardF rfl rfl rfl rfl ?_
            refine Wl.guardF rfl rfl rfl rfl ?_
            refine wZ rg (o_pickF rfl rfl (v := .bool false) rfl (mvZ (.bool false) rfl ?_))
            refine Wl.guardF rfl rfl rfl rfl ?_
            refine Wl.guardF rfl rfl rfl rfl ?_
            refine Wl.guardF rfl rfl rfl rfl ?_
            refine Wl.guardF rfl rfl rfl rfl ?_
            refine wZ rg (o_pickF rfl rfl (v := .bool false) rfl (asZ (.bool false) rfl (nZ ?_)))
            refine Vc.ret' ?_
            refine res_tmp (v := .bool false) rfl (res_nil ?_)
            show Gives _ (.bool false) _
            exact gives_out hrg (VW.refl _) (hQ _ h)
          replace h := h.2 hb4
          refine Wl.guardF rfl rfl hb4 rfl ?_
          refine Wl.guardF rfl rfl hb4 rfl ?_
          refine wZ rg (o_pickF rfl hb4 (v := .bool false) rfl (mvZ (.bool false) rfl ?_))
          refine Wl.guardF rfl rfl rfl rfl ?_
          refine Wl.guardF rfl rfl rfl rfl ?_
          refine Wl.guardF rfl rfl rfl rfl ?_
          refine Wl.guardF rfl rfl rfl rfl ?_
          refine wZ rg (o_pickF rfl rfl (v := .bool false) rfl (mvZ (.bool false) rfl ?_))
          refine Wl.guardF rfl rfl rfl rfl ?_
          refine Wl.guardF rfl rfl rfl rfl ?_
          refine Wl.guardF rfl rfl rfl rfl ?_
          refine Wl.guardF rfl rfl rfl rfl ?_
          refine wZ rg (o_pickF rfl rfl (v := .bool false) rfl (mvZ (.bool false) rfl ?_))
          refine Wl.guardF rfl rfl rfl rfl ?_
          refine Wl.guardF rfl rfl rfl rfl ?_
          refine Wl.guardF rfl rfl rfl rfl ?_
          refine Wl.guardF rfl rfl rfl rfl ?_
          refine wZ rg (o_pickF rfl rfl (v := .bool false) rfl (mvZ (.bool false) rfl ?_))
          refine Wl.guardF rfl rfl rfl rfl ?_
          refine Wl.guardF rfl rfl rfl rfl ?_
          refine Wl.guardF rfl rfl rfl rfl ?_
          refine Wl.guardF rfl rfl rfl rfl ?_
          refine wZ rg (o_pickF rfl rfl (v := .bool false) rfl (asZ (.bool false) rfl (nZ ?_)))
          refine Vc.ret' ?_
          refine res_tmp (v := .bool false) rfl (res_nil ?_)
          show Gives _ (.bool false) _
          exact gives_out hrg (VW.refl _) (hQ _ h)
        replace h := h.2 hb3
        refine Wl.guardF rfl rfl hb3 rfl ?_
        refine wZ rg (o_pickF rfl hb3 (v := .bool false) rfl (mvZ (.bool false) rfl ?_))
        refine Wl.guardF rfl rfl rfl rfl ?_
        refine Wl.guardF rfl rfl rfl rfl ?_
        refine Wl.guardF rfl rfl rfl rfl ?_
        refine wZ rg (o_pickF rfl rfl (v := .bool false) rfl (mvZ (.bool false) rfl ?_))
        refine Wl.guardF rfl rfl rfl rfl ?_
        refine Wl.guardF rfl rfl rfl rfl ?_
        refine Wl.guardF rfl rfl rfl rfl ?_
        refine Wl.guardF rfl rfl rfl rfl ?_
        refine wZ rg (o_pickF rfl rfl (v := .bool false) rfl (mvZ (.bool false) rfl ?_))
        refine Wl.guardF rfl rfl rfl rfl ?_
        refine Wl.guardF rfl rfl rfl rfl ?_
        refine Wl.guardF rfl rfl rfl rfl ?_
        refine Wl.guardF rfl rfl rfl rfl ?_
        refine wZ rg (o_pickF rfl rfl (v := .bool false) rfl (mvZ (.bool false) rfl ?_))
        refine Wl.guardF rfl rfl rfl rfl ?_
        refine Wl.guardF rfl rfl rfl rfl ?_
        refine Wl.guardF rfl rfl rfl rfl ?_
        refine Wl.guardF rfl rfl rfl rfl ?_
        refine wZ rg (o_pickF rfl rfl (v := .bool false) rfl (mvZ (.bool false) rfl ?_))
        refine Wl.guardF rfl rfl rfl rfl ?_
        refine Wl.guardF rfl rfl rfl rfl ?_
        refine Wl.guardF rfl rfl rfl rfl ?_
        refine Wl.guardF rfl rfl rfl rfl ?_
        refine wZ rg (o_pickF rfl rfl (v := .bool false) rfl (asZ (.bool false) rfl (nZ ?_)))
        refine Vc.ret' ?_
        refine res_tmp (v := .bool false) rfl (res_nil ?_)
        show Gives _ (.bool false) _
        exact gives_out hrg (VW.refl _) (hQ _ h)
      replace h := h.2 hb2
      refine Wl.guardF rfl rfl hb2 rfl ?_
      refine wZ rg (o_pickF rfl hb2 (v := .bool false) rfl (mvZ (.bool false) rfl ?_))
      refine Wl.guardF rfl rfl rfl rfl ?_
      refine Wl.guardF rfl rfl rfl rfl ?_
      refine wZ rg (o_pickF rfl rfl (v := .bool false) rfl (mvZ (.bool false) rfl ?_))
      refine Wl.guardF rfl rfl rfl rfl ?_
      refine Wl.guardF rfl rfl rfl rfl ?_
      refine Wl.guardF rfl rfl rfl rfl ?_
      refine wZ rg (o_pickF rfl rfl (v := .bool false) rfl (mvZ (.bool false) rfl ?_))
      refine Wl.guardF rfl rfl rfl rfl ?_
      refine Wl.guardF rfl rfl rfl rfl ?_
      refine Wl.guardF rfl rfl rfl rfl ?_
      refine Wl.guardF rfl rfl rfl rfl ?_
      refine wZ rg (o_pickF rfl rfl (v := .bool false) rfl (mvZ (.bool false) rfl ?_))
      refine Wl.guardF rfl rfl rfl rfl ?_
      refine Wl.guardF rfl rfl rfl rfl ?_
      refine Wl.guardF rfl rfl rfl rfl ?_
      refine Wl.guardF rfl rfl rfl rfl ?_
      refine wZ rg (o_pickF rfl rfl (v := .bool false) rfl (mvZ (.bool false) rfl ?_))
      refine Wl.guardF rfl rfl rfl rfl ?_
      refine Wl.guardF rfl rfl rfl rfl ?_
      refine Wl.guardF rfl rfl rfl rfl ?_
      refine Wl.guardF rfl rfl rfl rfl ?_
      refine wZ rg (o_pickF rfl rfl (v := .bool false) rfl (mvZ (.bool false) rfl ?_))
      refine Wl.guardF rfl rfl rfl rfl ?_
      refine Wl.guardF rfl rfl rfl rfl ?_
      refine Wl.guardF rfl rfl rfl rfl ?_
      refine Wl.guardF rfl rfl rfl rfl ?_
      refine wZ rg (o_pickF rfl rfl (v := .bool false) rfl (asZ (.bool false) rfl (nZ ?_)))
      refine Vc.ret' ?_
      refine res_tmp (v := .bool false) rfl (res_nil ?_)
      show Gives _ (.bool false) _
      exact gives_out hrg (VW.refl _) (hQ _ h)
    replace h := h.2 hb1
    refine Vc.skip' ?_
    refine qZ (qZ ?_)
    rcases Bool.eq_false_or_eq_true (Option.isSome r4) with hb9 | hb9
    · replace h := h.1 hb9
      refine Vc.drawn' mixed rg (fun _ => jcr2) (by kernel_rfl) ?_
      refine dP rfl rfl (o_move (v := eErr 107 r4) rfl (dP rfl rfl (o_isnon td31 (E := 107) rfl rfl rfl (dP rfl rfl (o_move (v := .bool (Option.isSome r4)) rfl ?_)))))
      refine dGF rfl rfl hb9 rfl ?_
      refine dGF rfl rfl rfl rfl ?_
      refine dP rfl rfl (o_pickT rfl rfl (v := .bool true) rfl (dP rfl rfl (o_move (v := .bool true) rfl ?_)))
      refine dGF rfl rfl rfl rfl ?_
      refine dGF rfl rfl rfl rfl ?_
      refine dP rfl rfl (o_pickT rfl rfl (v := .bool true) rfl (dP rfl rfl (o_move (v := .bool true) rfl ?_)))
      refine dGF rfl rfl rfl rfl ?_
      refine dGF rfl rfl rfl rfl ?_
      refine dGF rfl rfl rfl rfl ?_
      refine dGF rfl rfl rfl rfl ?_
      refine dGF rfl rfl rfl rfl ?_
      refine dP rfl rfl (o_pickT rfl rfl (v := .bool true) rfl (dP rfl rfl (o_move (v := .bool true) rfl ?_)))
      refine dGF rfl rfl rfl rfl ?_
      refine dGF rfl rfl rfl rfl ?_
      refine dGF rfl rfl rfl rfl ?_
      refine dGF rfl rfl rfl rfl ?_
      refine dGF rfl rfl rfl rfl ?_
      refine dP rfl rfl (o_pickT rfl rfl (v := .bool true) rfl (dP rfl rfl (o_move (v := .bool true) rfl ?_)))
      refine dGF rfl rfl rfl rfl ?_
      refine dGF rfl rfl rfl rfl ?_
      refine dGF rfl rfl rfl rfl ?_
      refine dGF rfl rfl rfl rfl ?_
      refine dGF rfl rfl rfl rfl ?_
      refine dGF rfl rfl rfl rfl ?_
      refine dP rfl rfl (o_pickT rfl rfl (v := .bool true) rfl (dN ?_))
      refine Vc.cond' rfl (fun _ => ?_) (fun hb => Bool.noConfusion hb)
      refine qZ (rZ (asZ (.bool false) rfl (nZ ?_)))
      refine Vc.ret' ?_
      refine res_tmp (v := .bool false) rfl (res_nil ?_)
      show Gives _ (.bool false) _
      exact gives_out hrg (VW.refl _) (hQ _ h)
    replace h := h.2 hb9
    rcases Bool.eq_false_or_eq_true (Option.isSome r6) with hb10 | hb10
    · replace h := h.1 hb10
      refine Vc.drawn' mixed rg (fun _ => jcr2) (by kernel_rfl) ?_
      refine dP rfl rfl (o_move (v := eErr 107 r4) rfl (dP rfl rfl (o_isnon td31 (E := 107) rfl rfl rfl (dP rfl rfl (o_move (v := .bool (Option.isSome r4)) rfl ?_)))))
      refine dGT rfl rfl hb9 ?_
      refine dP rfl rfl (o_move (v := eErr 107 r6) rfl ?_)
      refine dGT rfl rfl rfl ?_
      refine dP rfl rfl (o_isnon td31 (E := 107) rfl rfl rfl (dP rfl rfl (o_pickF rfl rfl (v := .bool (Option.isSome r6)) rfl (dP rfl rfl (o_move (v := .bool (Option.isSome r6)) rfl ?_)))))
      refine dGF rfl rfl hb10 rfl ?_
      refine dGF rfl rfl rfl rfl ?_
      refine dP rfl rfl (o_pickT rfl rfl (v := .bool true) rfl (dP rfl rfl (o_move (v := .bool true) rfl ?_)))
      refine dGF rfl rfl rfl rfl ?_
      refine dGF rfl rfl rfl rfl ?_
      refine dGF rfl rfl rfl rfl ?_
      refine dGF rfl rfl rfl rfl ?_
      refine dGF rfl rfl rfl rfl ?_
      refine dP rfl rfl (o_pickT rfl rfl (v := .bool true) rfl (dP rfl rfl (o_move (v := .bool true) rfl ?_)))
      refine dGF rfl rfl rfl rfl ?_
      refine dGF rfl rfl rfl rfl ?_
      refine dGF rfl rfl rfl rfl ?_
      refine dGF rfl rfl rfl rfl ?_
      refine dGF rfl rfl rfl rfl ?_
      refine dP rfl rfl (o_pickT rfl rfl (v := .bool true) rfl (dP rfl rfl (o_move (v := .bool true) rfl ?_)))
      refine dGF rfl rfl rfl rfl ?_
      refine dGF rfl rfl rfl rfl ?_
      refine dGF rfl rfl rfl rfl ?_
      refine dGF rfl rfl rfl rfl ?_
      refine dGF rfl rfl rfl rfl ?_
      refine dGF rfl rfl rfl rfl ?_
      refine dP rfl rfl (o_pickT rfl rfl (v := .bool true) rfl (dN ?_))
      refine Vc.cond' rfl (fun _ => ?_) (fun hb => Bool.noConfusion hb)
      refine qZ (rZ (asZ (.bool false) rfl (nZ ?_)))
      refine Vc.ret' ?_
      refine res_tmp (v := .bool false) rfl (res_nil ?_)
      show Gives _ (.bool false) _
      exact gives_out hrg (VW.refl _) (hQ _ h)
    replace h := h.2 hb10
    rcases Bool.eq_false_or_eq_true (Option.isSome r8) with hb11 | hb11
    · replace h := h.1 hb11
      refine Vc.drawn' mixed rg (fun _ => jcr2) (by kernel_rfl) ?_
      refine dP rfl rfl (o_move (v := eErr 107 r4) rfl (dP rfl rfl (o_isnon td31 (E := 107) rfl rfl rfl (dP rfl rfl (o_move (v := .bool (Option.isSome r4)) rfl ?_)))))
      refine dGT rfl rfl hb9 ?_
      refine dP rfl rfl (o_move (v := eErr 107 r6) rfl ?_)
      refine dGT rfl rfl rfl ?_
      refine dP rfl rfl (o_isnon td31 (E := 107) rfl rfl rfl (dP rfl rfl (o_pickF rfl rfl (v := .bool (Option.isSome r6)) rfl (dP rfl rfl (o_move (v := .bool (Option.isSome r6)) rfl ?_)))))
      refine dGT rfl rfl hb10 ?_
      refine dP rfl rfl (o_move (v := eErr 107 r8) rfl ?_)
      refine dGT rfl rfl rfl ?_
      refine dP rfl rfl (o_isnon td31 (E := 107) rfl rfl rfl (dP rfl rfl (o_pickF rfl rfl (v := .bool (Option.isSome r8)) rfl (dP rfl rfl (o_move (v := .bool (Option.isSome r8)) rfl ?_)))))
      refine dGF rfl rfl hb11 rfl ?_
      refine dGF rfl rfl rfl rfl ?_
      refine dGF rfl rfl rfl rfl ?_
      refine dGF rfl rfl rfl rfl ?_
      refine dGF rfl rfl rfl rfl ?_
      refine dP rfl rfl (o_pickT rfl rfl (v := .bool true) rfl (dP rfl rfl (o_move (v := .bool true) rfl ?_)))
      refine dGF rfl rfl rfl rfl ?_
      refine dGF rfl rfl rfl rfl ?_
      refine dGF rfl rfl rfl rfl ?_
      refine dGF rfl rfl rfl rfl ?_
      refine dGF rfl rfl rfl rfl ?_
      refine dP rfl rfl (o_pickT rfl rfl (v := .bool true) rfl (dP rfl rfl (o_move (v := .bool true) rfl ?_)))
      refine dGF rfl rfl rfl rfl ?_
      refine dGF rfl rfl rfl rfl ?_
      refine dGF rfl rfl rfl rfl ?_
      refine dGF rfl rfl rfl rfl ?_
      refine dGF rfl rfl rfl rfl ?_
      refine dGF rfl rfl rfl rfl ?_
      refine dP rfl rfl (o_pickT rfl rfl (v := .bool true) rfl (dN ?_))
      refine Vc.cond' rfl (fun _ => ?_) (fun hb => Bool.noConfusion hb)
      refine qZ (rZ (asZ (.bool false) rfl (nZ ?_)))
      refine Vc.ret' ?_
      refine res_tmp (v := .bool false) rfl (res_nil ?_)
      show Gives _ (.bool false) _
      exact gives_out hrg (VW.refl _) (hQ _ h)
    replace h := h.2 hb11
    obtain ⟨r14, hc, h⟩ := h
    rcases Bool.eq_false_or_eq_true (r3 != r14) with hb12 | hb12
    · replace h := h.1 hb12
      refine Vc.drawn' mixed rg (usOf [(14, pc (.int .i64 r14))]) (by kernel_rfl) ?_
      refine dP rfl rfl (o_move (v := eErr 107 r4) rfl (dP rfl rfl (o_isnon td31 (E := 107) rfl rfl rfl (dP rfl rfl (o_move (v := .bool (Option.isSome r4)) rfl ?_)))))
      refine dGT rfl rfl hb9 ?_
      refine dP rfl rfl (o_move (v := eErr 107 r6) rfl ?_)
      refine dGT rfl rfl rfl ?_
      refine dP rfl rfl (o_isnon td31 (E := 107) rfl rfl rfl (dP rfl rfl (o_pickF rfl rfl (v := .bool (Option.isSome r6)) rfl (dP rfl rfl (o_move (v := .bool (Option.isSome r6)) rfl ?_)))))
      refine dGT rfl rfl hb10 ?_
      refine dP rfl rfl (o_move (v := eErr 107 r8) rfl ?_)
      refine dGT rfl rfl rfl ?_
      refine dP rfl rfl (o_isnon td31 (E := 107) rfl rfl rfl (dP rfl rfl (o_pickF rfl rfl (v := .bool (Option.isSome r8)) rfl (dP rfl rfl (o_move (v := .bool (Option.isSome r8)) rfl ?_)))))
      refine dGT rfl rfl hb11 ?_
      refine dP rfl rfl (o_move (v := .int .i64 r3) rfl ?_)
      refine dGT rfl rfl rfl ?_
      refine dL (E := ([(rg, 3)], [])) rfl rfl (by simp) (cfn) (o_loadBA (atL (k := 3) rfl) sz94 (by decide) ag94 rfl rfl (v := eMission m) rfl ?_)
      refine dGT rfl rfl rfl ?_
      refine dP rfl rfl (o_move (v := eL (AV.int .i64) h1) rfl ?_)
      refine dGT rfl rfl rfl ?_
      refine dC (vs := [eMission m, eL (AV.int .i64) h1]) rfl (vl' vr (vl' vr (vn))) (fun _ => ref46_Fails_ctr hc (fun _ hr => ⟨by rw [hr], rfl⟩)) rfl ?_
      refine dGT rfl rfl rfl ?_
      refine dP rfl rfl (o_neq rfl rfl (dP rfl rfl (o_pickF rfl rfl (v := .bool (r3 != r14)) rfl (dP rfl rfl (o_move (v := .bool (r3 != r14)) rfl ?_)))))
      refine dGF rfl rfl hb12 rfl ?_
      refine dGF rfl rfl rfl rfl ?_
      refine dGF rfl rfl rfl rfl ?_
      refine dGF rfl rfl rfl rfl ?_
      refine dGF rfl rfl rfl rfl ?_
      refine dP rfl rfl (o_pickT rfl rfl (v := .bool true) rfl (dP rfl rfl (o_move (v := .bool true) rfl ?_)))
      refine dGF rfl rfl rfl rfl ?_
      refine dGF rfl rfl rfl rfl ?_
      refine dGF rfl rfl rfl rfl ?_
      refine dGF rfl rfl rfl rfl ?_
      refine dGF rfl rfl rfl rfl ?_
      refine dGF rfl rfl rfl rfl ?_
      refine dP rfl rfl (o_pickT rfl rfl (v := .bool true) rfl (dN ?_))
      refine Vc.cond' rfl (fun _ => ?_) (fun hb => Bool.noConfusion hb)
      refine qZ (rZ (asZ (.bool false) rfl (nZ ?_)))
      refine Vc.ret' ?_
      refine res_tmp (v := .bool false) rfl (res_nil ?_)
      show Gives _ (.bool false) _
      exact gives_out hrg (VW.refl _) (hQ _ h)
    replace h := h.2 hb12
    obtain ⟨r15, hc1, h⟩ := h
    rcases Bool.eq_false_or_eq_true (r7 != r15) with hb13 | hb13
    · replace h := h.1 hb13
      refine Vc.drawn' mixed rg (usOf [(14, pc (.int .i64 r14)), (21, pc (.int .i64 r15))]) (by kernel_rfl) ?_
      refine dP rfl rfl (o_move (v := eErr 107 r4) rfl (dP rfl rfl (o_isnon td31 (E := 107) rfl rfl rfl (dP rfl rfl (o_move (v := .bool (Option.isSome r4)) rfl ?_)))))
      refine dGT rfl rfl hb9 ?_
      refine dP rfl rfl (o_move (v := eErr 107 r6) rfl ?_)
      refine dGT rfl rfl rfl ?_
      refine dP rfl rfl (o_isnon td31 (E := 107) rfl rfl rfl (dP rfl rfl (o_pickF rfl rfl (v := .bool (Option.isSome r6)) rfl (dP rfl rfl (o_move (v := .bool (Option.isSome r6)) rfl ?_)))))
      refine dGT rfl rfl hb10 ?_
      refine dP rfl rfl (o_move (v := eErr 107 r8) rfl ?_)
      refine dGT rfl rfl rfl ?_
      refine dP rfl rfl (o_isnon td31 (E := 107) rfl rfl rfl (dP rfl rfl (o_pickF rfl rfl (v := .bool (Option.isSome r8)) rfl (dP rfl rfl (o_move (v := .bool (Option.isSome r8)) rfl ?_)))))
      refine dGT rfl rfl hb11 ?_
      refine dP rfl rfl (o_move (v := .int .i64 r3) rfl ?_)
      refine dGT rfl rfl rfl ?_
      refine dL (E := ([(rg, 3)], [])) rfl rfl (by simp) (cfn) (o_loadBA (atL (k := 3) rfl) sz94 (by decide) ag94 rfl rfl (v := eMission m) rfl ?_)
      refine dGT rfl rfl rfl ?_
      refine dP rfl rfl (o_move (v := eL (AV.int .i64) h1) rfl ?_)
      refine dGT rfl rfl rfl ?_
      refine dC (vs := [eMission m, eL (AV.int .i64) h1]) rfl (vl' vr (vl' vr (vn))) (fun _ => ref46_Fails_ctr hc (fun _ hr => ⟨by rw [hr], rfl⟩)) rfl ?_
      refine dGT rfl rfl rfl ?_
      refine dP rfl rfl (o_neq rfl rfl (dP rfl rfl (o_pickF rfl rfl (v := .bool (r3 != r14)) rfl (dP rfl rfl (o_move (v := .bool (r3 != r14)) rfl ?_)))))
      refine dGT rfl rfl hb12 ?_
      refine dP rfl rfl (o_move (v := .int .i64 r7) rfl ?_)
      refine dGT rfl rfl rfl ?_
      refine dL (E := ([(rg, 3)], [])) rfl rfl (by simp) (cfo (by kernel_rfl) (cfn)) (o_loadBA (atL (k := 3) rfl) sz94 (by decide) ag94 rfl rfl (v := eMission m) rfl ?_)
      refine dGT rfl rfl rfl ?_
      refine dP rfl rfl (o_move (v := eL (AV.int .i64) h1) rfl ?_)
      refine dGT rfl rfl rfl ?_
      refine dC (vs := [eMission m, eL (AV.int .i64) h1]) rfl (vl' vr (vl' vr (vn))) (fun _ => ref46_State_ctr hc1 (fun _ hr => ⟨by rw [hr], rfl⟩)) rfl ?_
      refine dGT rfl rfl rfl ?_
      refine dP rfl rfl (o_neq rfl rfl (dP rfl rfl (o_pickF rfl rfl (v := .bool (r7 != r15)) rfl (dP rfl rfl (o_move (v := .bool (r7 != r15)) rfl ?_)))))
      refine dGF rfl rfl hb13 rfl ?_
      refine dGF rfl rfl rfl rfl ?_
      refine dGF rfl rfl rfl rfl ?_
      refine dGF rfl rfl rfl rfl ?_
      refine dGF rfl rfl rfl rfl ?_
      refine dGF rfl rfl rfl rfl ?_
      refine dP rfl rfl (o_pickT rfl rfl (v := .bool true) rfl (dN ?_))
      refine Vc.cond' rfl (fun _ => ?_) (fun hb => Bool.noConfusion hb)
      refine qZ (rZ (asZ (.bool false) rfl (nZ ?_)))
      refine Vc.ret' ?_
      refine res_tmp (v := .bool false) rfl (res_nil ?_)
      show Gives _ (.bool false) _
      exact gives_out hrg (VW.refl _) (hQ _ h)
    replace h := h.2 hb13
    obtain ⟨r16, hc2, h⟩ := h
    obtain ⟨r17, hc3, h⟩ := h
    refine Vc.drawn' mixed rg (usOf [(14, pc (.int .i64 r14)), (21, pc (.int .i64 r15)), (28, pc (eRat r16)), (29, pc (.bool r17))]) (by kernel_rfl) ?_
    refine dP rfl rfl (o_move (v := eErr 107 r4) rfl (dP rfl rfl (o_isnon td31 (E := 107) rfl rfl rfl (dP rfl rfl (o_move (v := .bool (Option.isSome r4)) rfl ?_)))))
    refine dGT rfl rfl hb9 ?_
    refine dP rfl rfl (o_move (v := eErr 107 r6) rfl ?_)
    refine dGT rfl rfl rfl ?_
    refine dP rfl rfl (o_isnon td31 (E := 107) rfl rfl rfl (dP rfl rfl (o_pickF rfl rfl (v := .bool (Option.isSome r6)) rfl (dP rfl rfl (o_move (v := .bool (Option.isSome r6)) rfl ?_)))))
    refine dGT rfl rfl hb10 ?_
    refine dP rfl rfl (o_move (v := eErr 107 r8) rfl ?_)
    refine dGT rfl rfl rfl ?_
    refine dP rfl rfl (o_isnon td31 (E := 107) rfl rfl rfl (dP rfl rfl (o_pickF rfl rfl (v := .bool (Option.isSome r8)) rfl (dP rfl rfl (o_move (v := .bool (Option.isSome r8)) rfl ?_)))))
    refine dGT rfl rfl hb11 ?_
    refine dP rfl rfl (o_move (v := .int .i64 r3) rfl ?_)
    refine dGT rfl rfl rfl ?_
    refine dL (E := ([(rg, 3)], [])) rfl rfl (by simp) (cfn) (o_loadBA (atL (k := 3) rfl) sz94 (by decide) ag94 rfl rfl (v := eMission m) rfl ?_)
    refine dGT rfl rfl rfl ?_
    refine dP rfl rfl (o_move (v := eL (AV.int .i64) h1) rfl ?_)
    refine dGT rfl rfl rfl ?_
    refine dC (vs := [eMission m, eL (AV.int .i64) h1]) rfl (vl' vr (vl' vr (vn))) (fun _ => ref46_Fails_ctr hc (fun _ hr => ⟨by rw [hr], rfl⟩)) rfl ?_
    refine dGT rfl rfl rfl ?_
    refine dP rfl rfl (o_neq rfl rfl (dP rfl rfl (o_pickF rfl rfl (v := .bool (r3 != r14)) rfl (dP rfl rfl (o_move (v := .bool (r3 != r14)) rfl ?_)))))
    refine dGT rfl rfl hb12 ?_
    refine dP rfl rfl (o_move (v := .int .i64 r7) rfl ?_)
    refine dGT rfl rfl rfl ?_
    refine dL (E := ([(rg, 3)], [])) rfl rfl (by simp) (cfo (by kernel_rfl) (cfn)) (o_loadBA (atL (k := 3) rfl) sz94 (by decide) ag94 rfl rfl (v := eMission m) rfl ?_)
    refine dGT rfl rfl rfl ?_
    refine dP rfl rfl (o_move (v := eL (AV.int .i64) h1) rfl ?_)
    refine dGT rfl rfl rfl ?_
    refine dC (vs := [eMission m, eL (AV.int .i64) h1]) rfl (vl' vr (vl' vr (vn))) (fun _ => ref46_State_ctr hc1 (fun _ hr => ⟨by rw [hr], rfl⟩)) rfl ?_
    refine dGT rfl rfl rfl ?_
    refine dP rfl rfl (o_neq rfl rfl (dP rfl rfl (o_pickF rfl rfl (v := .bool (r7 != r15)) rfl (dP rfl rfl (o_move (v := .bool (r7 != r15)) rfl ?_)))))
    refine dGT rfl rfl hb13 ?_
    refine dL (E := ([(rg, 11)], [])) rfl rfl (by simp) (cfo (by kernel_rfl) (cfo (by kernel_rfl) (cfn))) (o_loadBA (atL (k := 11) rfl) sz27 (by decide) ag27 rfl rfl (v := eRat r5) rfl ?_)
    refine dGT rfl rfl rfl ?_
    refine dL (E := ([(rg, 3)], [])) rfl rfl (by simp) (cfa (by simp [apartE]) (cfo (by kernel_rfl) (cfo (by kernel_rfl) (cfn)))) (o_loadBA (atL (k := 3) rfl) sz94 (by decide) ag94 rfl rfl (v := eMission m) rfl ?_)
    refine dGT rfl rfl rfl ?_
    refine dP rfl rfl (o_move (v := eL (AV.int .i64) h1) rfl ?_)
    refine dGT rfl rfl rfl ?_
    refine dC (vs := [eMission m, eL (AV.int .i64) h1]) rfl (vl' vr (vl' vr (vn))) (fun _ => ref46_Weight_ctr hc2 (fun _ hr => ⟨by rw [hr], rfl⟩)) rfl ?_
    refine dGT rfl rfl rfl ?_
    refine dC (vs := [eRat r5, eRat r16]) rfl (vl' vr (vl' vr (vn))) (fun _ => base_Rat_ctr hc3 (fun _ hr => ⟨by rw [hr], rfl⟩)) rfl ?_
    refine dGT rfl rfl rfl ?_
    refine dP rfl rfl (o_not rfl (dP rfl rfl (o_pickF rfl rfl (v := .bool (!r17)) rfl (dN ?_))))
    refine Vc.cond' rfl (fun hb14 => ?_) (fun hb14 => ?_)
    · replace h := h.1 hb14
      refine qZ (rZ (asZ (.bool false) rfl (nZ ?_)))
      refine Vc.ret' ?_
      refine res_tmp (v := .bool false) rfl (res_nil ?_)
      show Gives _ (.bool false) _
      exact gives_out hrg (VW.refl _) (hQ _ h)
    replace h := h.2 hb14
    refine Vc.skip' ?_
    refine qZ ?_
    obtain ⟨J, h, hJ⟩ := h
    refine Vc.join' (σ := (Bool)) (fun y => J y) (fun y => envOf [(1, eL (AV.int .i64) h1), (2, .int .i64 j), (7, .int .i64 r1), (8, eErr 107 r2), (137, .bool y)]) (fun y => stL S rg []) (fun x1 h => ?_) ?_
    · replace h := hJ x1 h
      show Vc _ _ _ _ (envOf [(1, eL (AV.int .i64) h1), (2, .int .i64 j), (7, .int .i64 r1), (8, eErr 107 r2), (137, .bool x1)]) (stL S rg [])
      refine Vc.cond' rfl (fun hb15 => ?_) (fun hb15 => ?_)
      · replace h := h.1 hb15
        refine qZ (rZ (mvZ (.int .i64 r1) rfl (wZ rg (o_eql rfl rfl (mvZ (.bool (r1 == 0)) rfl ?_)))))
        refine Wl.guard rfl rfl (fun hb16 => ?_) (fun hb16 => ?_)
        · replace h := h.1 hb16
          refine mvZ (eErr 107 r2) rfl ?_
          refine Wl.guardT rfl rfl hb16 ?_
          refine wZ rg (o_call (us := [eErr 107 r2, AV.int .i64 10]) rfl (vl' vr (vl' vr (vn))) (base_Is_ctr h fun r18 h => (wZ rg (o_pickT rfl hb16 (v := .bool r18) rfl (asZ (.bool r18) rfl (nZ ?_))))))
          refine Vc.ret' ?_
          refine res_tmp (v := .bool r18) rfl (res_nil ?_)
          show Gives _ (.bool r18) _
          exact gives_out hrg (VW.refl _) (hQ _ h)
        replace h := h.2 hb16
        refine Wl.guardF rfl rfl hb16 rfl ?_
        refine wZ rg (o_pickF rfl hb16 (v := .bool false) rfl (asZ (.bool false) rfl (nZ ?_)))
        refine Vc.ret' ?_
        refine res_tmp (v := .bool false) rfl (res_nil ?_)
        show Gives _ (.bool false) _
        exact gives_out hrg (VW.refl _) (hQ _ h)
      replace h := h.2 hb15
      refine Vc.skip' ?_
      refine qZ (rZ (mvZ (eErr 107 r2) rfl (wZ rg (o_isnil td31 (E := 107) rfl rfl rfl (mvZ (.bool (Option.isNone r2)) rfl ?_)))))
      refine Wl.guard rfl rfl (fun hb17 => ?_) (fun hb17 => ?_)
      · replace h := h.1 hb17
        refine mvZ (.int .i64 r1) rfl ?_
        refine Wl.guardT rfl rfl hb17 ?_
        refine mvZ (eL (AV.int .i64) h1) rfl ?_
        refine Wl.guardT rfl rfl hb17 ?_
        refine mvZ (.int .i64 j) rfl ?_
        refine Wl.guardT rfl rfl hb17 ?_
        refine wZ rg (o_call (us := [eL (AV.int .i64) h1, AV.int .i64 j]) rfl (vl' vr (vl' vr (vn))) (ref46_Failed_ctr h fun r19 h => ?_))
        refine Wl.guardT rfl rfl hb17 ?_
        refine wZ rg (o_eql rfl rfl (wZ rg (o_pickT rfl hb17 (v := .bool (r1 == r19)) rfl (asZ (.bool (r1 == r19)) rfl (nZ ?_)))))
        refine Vc.ret' ?_
        refine res_tmp (v := .bool (r1 == r19)) rfl (res_nil ?_)
        show Gives _ (.bool (r1 == r19)) _
        exact gives_out hrg (VW.refl _) (hQ _ h)
      replace h := h.2 hb17
      refine Wl.guardF rfl rfl hb17 rfl ?_
      refine Wl.guardF rfl rfl hb17 rfl ?_
      refine Wl.guardF rfl rfl hb17 rfl ?_
      refine Wl.guardF rfl rfl hb17 rfl ?_
      refine wZ rg (o_pickF rfl hb17 (v := .bool false) rfl (asZ (.bool false) rfl (nZ ?_)))
      refine Vc.ret' ?_
      refine res_tmp (v := .bool false) rfl (res_nil ?_)
      show Gives _ (.bool false) _
      exact gives_out hrg (VW.refl _) (hQ _ h)
    refine rZ ?_
    refine mvZ (.int .i64 j) rfl (wZ rg (o_lss rfl rfl (mvZ (.bool (decide (j < 0))) rfl ?_)))
    refine Wl.guard rfl rfl (fun hb18 => ?_) (fun hb18 => ?_)
    · replace h := h.2 hb18
      refine mvZ (.int .i64 j) rfl ?_
      refine Wl.guardT rfl rfl hb18 ?_
      refine wZ rg (o_faP td94 rfl rfl (by rw [sz91]; decide) rfl ?_)
      refine Wl.guardT rfl rfl hb18 ?_
      refine wZ rg (o_loadB1 (atL (k := 3) rfl) sz91 ag91 rfl rfl (v := eL eFormula m.Phases) rfl ?_)
      refine Wl.guardT rfl rfl hb18 ?_
      refine wZ rg (o_len td91 rfl ?_)
      refine Wl.guardT rfl rfl hb18 ?_
      refine wZ rg (o_geq rfl rfl (wZ rg (o_pickF rfl hb18 (v := .bool (decide ((m.Phases.length : Int) ≤ j))) rfl (nZ ?_))))
      exact ⟨(decide ((m.Phases.length : Int) ≤ j)), (canon (fc vr (fc vr (fc vr (fc vr (fc vr (fn)))))) (sn)), h⟩
    replace h := h.1 hb18
    refine Wl.guardF rfl rfl hb18 rfl ?_
    refine Wl.guardF rfl rfl hb18 rfl ?_
    refine Wl.guardF rfl rfl hb18 rfl ?_
    refine Wl.guardF rfl rfl hb18 rfl ?_
    refine wZ rg (o_pickT rfl hb18 (v := .bool true) rfl (nZ ?_))
    exact ⟨true, (canon (fc vr (fc vr (fc vr (fc vr (fc vr (fn)))))) (sn)), h⟩
  refine rZ ?_
  refine wZ rg (o_call (us := []) rfl (vn) (law46_awake_ctr h fun r20 h => (wZ rg (o_not rfl (mvZ (.bool (!r20)) rfl ?_)))))
  refine Wl.guard rfl rfl (fun hb19 => ?_) (fun hb19 => ?_)
  · replace h := h.2 hb19
    refine wZ rg (o_loadBA (atL (k := 3) rfl) sz94 (by decide) ag94 rfl rfl (v := eMission m) rfl ?_)
    refine Wl.guardT rfl rfl hb19 ?_
    refine wZ rg (o_call (us := [eMission m]) rfl (vl' vr (vn)) (law46_large_ctr h fun r21 h => (wZ rg (o_pickF rfl hb19 (v := .bool r21) rfl (mvZ (.bool r21) rfl ?_)))))
    refine Wl.guard rfl rfl (fun hb20 => ?_) (fun hb20 => ?_)
    · replace h := h.2 hb20
      refine mvZ (eL (AV.int .i64) h1) rfl ?_
      refine Wl.guardT rfl rfl hb20 ?_
      refine wZ rg (o_len td76 rfl ?_)
      refine Wl.guardT rfl rfl hb20 ?_
      refine wZ rg (o_gtr rfl rfl (wZ rg (o_pickF rfl hb20 (v := .bool (decide (100 < (h1.length : Int)))) rfl (nZ ?_))))
      exact ⟨((decide (100 < (h1.length : Int))), g1), (canon (fc vr (fc vr (fc vr (fc vr (fn))))) (sc rfl (sn))), h⟩
    replace h := h.1 hb20
    refine Wl.guardF rfl rfl hb20 rfl ?_
    refine Wl.guardF rfl rfl hb20 rfl ?_
    refine wZ rg (o_pickT rfl hb20 (v := .bool true) rfl (nZ ?_))
    exact ⟨(true, g1), (canon (fc vr (fc vr (fc vr (fc vr (fn))))) (sc rfl (sn))), h⟩
  replace h := h.1 hb19
  refine Wl.guardF rfl rfl hb19 rfl ?_
  refine wZ rg (o_pickT rfl hb19 (v := .bool true) rfl (mvZ (.bool true) rfl ?_))
  refine Wl.guardF rfl rfl rfl rfl ?_
  refine Wl.guardF rfl rfl rfl rfl ?_
  refine Wl.guardF rfl rfl rfl rfl ?_
  refine wZ rg (o_pickT rfl rfl (v := .bool true) rfl (nZ ?_))
  exact ⟨(true, g1), (canon (fc vr (fc vr (fc vr (fc vr (fn))))) (sc rfl (sn))), h⟩
end Go.Proofs.Ytonbnfgknijpoaa
