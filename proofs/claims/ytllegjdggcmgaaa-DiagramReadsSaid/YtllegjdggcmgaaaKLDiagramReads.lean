/- Walks of functions. Conditions: none. -/
import Derived.Test.YtllegjdggcmgaaaWa
import Derived.Test.YtllegjdggcmgaaaGgTy
import Derived.Test.YtllegjdggcmgaaaK1
import Derived.Test.YtllegjdggcmgaaaK3
import Derived.Test.YtllegjdggcmgaaaK4
import Derived.Test.YtllegjdggcmgaaaK8
/- Walks of functions. Conditions: none. -/
namespace Go.Proofs.Ytllegjdggcmgaaa
open Go.Gg
set_option maxRecDepth 100000
set_option maxHeartbeats 4000000 in
theorem law15_DiagramReads_ctr {d : GDiagram} {state : Int} {Q : Bool → Prop} {S : St} {R : AV → St → Prop} (h : law15_DiagramReads_W d state Q) (hQ : ∀ r1, Q r1 → R (AV.bool r1) S) :
    Ctr Try.prog 14 [eDiagram d, AV.int .i64 state] S R := by
  unfold law15_DiagramReads_W at h
  refine enterT Try.func14 rfl Try.ntmps14 Try.results14 (by kernel_rfl) (fun rg hrg => ?_)
  refine qZ (rZ (wZ rg (o_box (v := eDiagram d) rfl rfl (kk := 3) rfl (by decide) (fun g1 => (asZ (.bool false) rfl (nZ (qZ ?_)))))))
  obtain ⟨J, h, hJ⟩ := h
  refine Vc.join' (σ := ((Bool) × (Nat))) (fun y => J y.1) (fun y => envOf [(1, .int .i64 state), (2, .ptr rg 2 y.2 0 0), (19, .bool y.1)]) (fun y => stL S rg [(2, .arr 3 [eDiagram d], y.2)]) (fun y h => ?_) ?_
  · obtain ⟨x, g2⟩ := y
    replace h := hJ x h
    show Vc _ _ _ _ (envOf [(1, .int .i64 state), (2, .ptr rg 2 g2 0 0), (19, .bool x)]) (stL S rg [(2, .arr 3 [eDiagram d], g2)])
    refine Vc.cond' rfl (fun hb => ?_) (fun hb => ?_)
    · replace h := h.1 hb
      refine qZ (rZ (wZ rg (o_call (us := []) rfl (vn) (law15_awake_ctr h fun r h => (asZ (.bool r) rfl (nZ ?_))))))
      refine Vc.ret' ?_
      refine res_tmp (v := .bool r) rfl (res_nil ?_)
      show Gives _ (.bool r) _
      exact gives_out hrg (VW.refl _) (hQ _ h)
    replace h := h.2 hb
    refine Vc.skip' ?_
    refine qZ (rZ (wZ rg (o_loadBA (atL (k := 2) rfl) sz25 (by decide) ag25 rfl rfl (v := eDiagram d) rfl (mvZ (.int .i64 state) rfl (wZ rg (o_call (us := [eDiagram d, AV.int .i64 state]) rfl (vl' vr (vl' vr (vn))) (diagram_Value_ctr h fun r1 r2 h => (mvZ (.tuple [.bool r1, eErr 83 r2]) rfl (wZ rg (o_extract (v := .bool r1) rfl rfl rfl (wZ rg (o_extract (v := eErr 83 r2) rfl rfl rfl ?_))))))))))))
    refine asZ (.bool r1) rfl (asZ (eErr 83 r2) rfl (nZ (qZ (rZ (wZ rg (o_loadBA (atL (k := 2) rfl) sz25 (by decide) ag25 rfl rfl (v := eDiagram d) rfl (wZ rg (o_call (us := [eDiagram d]) rfl (vl' vr (vn)) (diagram_Support_ctr h fun r3 r4 h => (mvZ (.tuple [.int .i64 r3, eErr 83 r4]) rfl (wZ rg (o_extract (v := .int .i64 r3) rfl rfl rfl (wZ rg (o_extract (v := eErr 83 r4) rfl rfl rfl ?_))))))))))))))
    refine asZ (.int .i64 r3) rfl (asZ (eErr 83 r4) rfl (nZ (qZ (rZ (wZ rg (o_loadBA (atL (k := 2) rfl) sz25 (by decide) ag25 rfl rfl (v := eDiagram d) rfl (wZ rg (o_call (us := [eDiagram d]) rfl (vl' vr (vn)) (diagram_Size_ctr h fun r5 r6 h => (mvZ (.tuple [.int .i64 r5, eErr 83 r6]) rfl (wZ rg (o_extract (v := .int .i64 r5) rfl rfl rfl (wZ rg (o_extract (v := eErr 83 r6) rfl rfl rfl ?_))))))))))))))
    refine asZ (.int .i64 r5) rfl (asZ (eErr 83 r6) rfl (nZ (qZ (rZ (wZ rg (o_loadBA (atL (k := 2) rfl) sz25 (by decide) ag25 rfl rfl (v := eDiagram d) rfl (wZ rg (o_call (us := [eDiagram d]) rfl (vl' vr (vn)) (diagram_Levels_ctr h fun r7 r8 h => (mvZ (.tuple [eL (AV.int .i64) r7, eErr 83 r8]) rfl (wZ rg (o_extract (v := eL (AV.int .i64) r7) rfl rfl rfl ?_))))))))))))
    refine wZ rg (o_extract (v := eErr 83 r8) rfl rfl rfl (asZ (eL (AV.int .i64) r7) rfl (asZ (eErr 83 r8) rfl (nZ (qZ (rZ (wZ rg (o_loadBA (atL (k := 2) rfl) sz25 (by decide) ag25 rfl rfl (v := eDiagram d) rfl (wZ rg (o_call (us := [eDiagram d]) rfl (vl' vr (vn)) (ref15_Check_ctr h fun code h => (asZ (.int .i64 code) rfl (nZ (qZ (qZ (rZ (mvZ (.int .i64 code) rfl (wZ rg (o_neq rfl rfl (nZ ?_))))))))))))))))))))
    refine Vc.cond' rfl (fun hb1 => ?_) (fun hb1 => ?_)
    · replace h := h.1 hb1
      refine qZ (rZ (mvZ (.bool r1) rfl (wZ rg (o_not rfl (mvZ (.bool (!r1)) rfl ?_)))))
      refine Wl.guard rfl rfl (fun hb2 => ?_) (fun hb2 => ?_)
      · replace h := h.1 hb2
        refine mvZ (.int .i64 r3) rfl ?_
        refine Wl.guardT rfl rfl hb2 ?_
        refine wZ rg (o_eql rfl rfl (wZ rg (o_pickT rfl hb2 (v := .bool (r3 == 0)) rfl (mvZ (.bool (r3 == 0)) rfl ?_))))
        refine Wl.guard rfl rfl (fun hb3 => ?_) (fun hb3 => ?_)
        · replace h := h.1 hb3
          refine mvZ (.int .i64 r5) rfl ?_
          refine Wl.guardT rfl rfl hb3 ?_
          refine wZ rg (o_eql rfl rfl (wZ rg (o_pickT rfl hb3 (v := .bool (r5 == 0)) rfl (mvZ (.bool (r5 == 0)) rfl ?_))))
          refine Wl.guard rfl rfl (fun hb4 => ?_) (fun hb4 => ?_)
          · replace h := h.1 hb4
            refine mvZ (eL (AV.int .i64) r7) rfl ?_
            refine Wl.guardT rfl rfl hb4 ?_
            refine wZ rg (o_len td22 rfl ?_)
            refine Wl.guardT rfl rfl hb4 ?_
            refine wZ rg (o_eql rfl rfl (wZ rg (o_pickT rfl hb4 (v := .bool ((r7.length : Int) == 0)) rfl (mvZ (.bool ((r7.length : Int) == 0)) rfl ?_))))
            refine Wl.guard rfl rfl (fun hb5 => ?_) (fun hb5 => ?_)
            · replace h := h.1 hb5
              refine mvZ (eErr 83 r2) rfl ?_
              refine Wl.guardT rfl rfl hb5 ?_
              refine wZ rg (o_call (us := [eErr 83 r2]) rfl (vl' vr (vn)) (base_Num_ctr h fun r9 h => ?_))
              refine Wl.guardT rfl rfl hb5 ?_
              refine mvZ (.int .i64 code) rfl ?_
              refine Wl.guardT rfl rfl hb5 ?_
              refine wZ rg (o_eql rfl rfl (wZ rg (o_pickT rfl hb5 (v := .bool (r9 == code)) rfl (mvZ (.bool (r9 == code)) rfl ?_))))
              refine Wl.guard rfl rfl (fun hb6 => ?_) (fun hb6 => ?_)
              · replace h := h.1 hb6
                refine mvZ (eErr 83 r4) rfl ?_
                refine Wl.guardT rfl rfl hb6 ?_
                refine wZ rg (o_call (us := [eErr 83 r4]) rfl (vl' vr (vn)) (base_Num_ctr h fun r10 h => ?_))
                refine Wl.guardT rfl rfl hb6 ?_
                refine mvZ (.int .i64 code) rfl ?_
                refine Wl.guardT rfl rfl hb6 ?_
                refine wZ rg (o_eql rfl rfl (wZ rg (o_pickT rfl hb6 (v := .bool (r10 == code)) rfl (mvZ (.bool (r10 == code)) rfl ?_))))
                refine Wl.guard rfl rfl (fun hb7 => ?_) (fun hb7 => ?_)
                · replace h := h.1 hb7
                  refine mvZ (eErr 83 r6) rfl ?_
                  refine Wl.guardT rfl rfl hb7 ?_
                  refine wZ rg (o_call (us := [eErr 83 r6]) rfl (vl' vr (vn)) (base_Num_ctr h fun r11 h => ?_))
                  refine Wl.guardT rfl rfl hb7 ?_
                  refine mvZ (.int .i64 code) rfl ?_
                  refine Wl.guardT rfl rfl hb7 ?_
                  refine wZ rg (o_eql rfl rfl (wZ rg (o_pickT rfl hb7 (v := .bool (r11 == code)) rfl (mvZ (.bool (r11 == code)) rfl ?_))))
                  refine Wl.guard rfl rfl (fun hb8 => ?_) (fun hb8 => ?_)
                  · replace h := h.1 hb8
                    refine mvZ (eErr 83 r8) rfl ?_
                    refine Wl.guardT rfl rfl hb8 ?_
                    refine wZ rg (o_call (us := [eErr 83 r8]) rfl (vl' vr (vn)) (base_Num_ctr h fun r12 h => ?_))
                    refine Wl.guardT rfl rfl hb8 ?_
                    refine mvZ (.int .i64 code) rfl ?_
                    refine Wl.guardT rfl rfl hb8 ?_
                    refine wZ rg (o_eql rfl rfl (wZ rg (o_pickT rfl hb8 (v := .bool (r12 == code)) rfl (asZ (.bool (r12 == code)) rfl (nZ ?_)))))
                    refine Vc.ret' ?_
                    refine res_tmp (v := .bool (r12 == code)) rfl (res_nil ?_)
                    show Gives _ (.bool (r12 == code)) _
                    exact gives_out hrg (VW.refl _) (hQ _ h)
                  replace h := h.2 hb8
                  refine Wl.guardF rfl rfl hb8 rfl ?_
                  refine Wl.guardF rfl rfl hb8 rfl ?_
                  refine Wl.guardF rfl rfl hb8 rfl ?_
                  refine wZ rg (o_pickF rfl hb8 (v := .bool false) rfl (asZ (.bool false) rfl (nZ ?_)))
                  refine Vc.ret' ?_
                  refine res_tmp (v := .bool false) rfl (res_nil ?_)
                  show Gives _ (.bool false) _
                  exact gives_out hrg (VW.refl _) (hQ _ h)
                replace h := h.2 hb7
                refine Wl.guardF rfl rfl hb7 rfl ?_
                refine Wl.guardF rfl rfl hb7 rfl ?_
                refine Wl.guardF rfl rfl hb7 rfl ?_
                refine wZ rg (o_pickF rfl hb7 (v := .bool false) rfl (mvZ (.bool false) rfl ?_))
                refine Wl.guardF rfl rfl rfl rfl ?_
                refine Wl.guardF rfl rfl rfl rfl ?_
                refine Wl.guardF rfl rfl rfl rfl ?_
                refine Wl.guardF rfl rfl rfl rfl ?_
                refine wZ rg (o_pickF rfl rfl (v := .bool false) rfl (asZ (.bool false) rfl (nZ ?_)))
                refine Vc.ret' ?_
                refine res_tmp (v := .bool false) rfl (res_nil ?_)
                show Gives _ (.bool false) _
                exact gives_out hrg (VW.refl _) (hQ _ h)
              replace h := h.2 hb6
              refine Wl.guardF rfl rfl hb6 rfl ?_
              refine Wl.guardF rfl rfl hb6 rfl ?_
              refine Wl.guardF rfl rfl hb6 rfl ?_
              refine wZ rg (o_pickF rfl hb6 (v := .bool false) rfl (mvZ (.bool false) rfl ?_))
              refine Wl.guardF rfl rfl rfl rfl ?_
              refine Wl.guardF rfl rfl rfl rfl ?_
              refine Wl.guardF rfl rfl rfl rfl ?_
              refine Wl.guardF rfl rfl rfl rfl ?_
              refine wZ rg (o_pickF rfl rfl (v := .bool false) rfl (mvZ (.bool false) rfl ?_))
              refine Wl.guardF rfl rfl rfl rfl ?_
              refine Wl.guardF rfl rfl rfl rfl ?_
              refine Wl.guardF rfl rfl rfl rfl ?_
              refine Wl.guardF rfl rfl rfl rfl ?_
              refine wZ rg (o_pickF rfl rfl (v := .bool false) rfl (asZ (.bool false) rfl (nZ ?_)))
              refine Vc.ret' ?_
              refine res_tmp (v := .bool false) rfl (res_nil ?_)
              show Gives _ (.bool false) _
              exact gives_out hrg (VW.refl _) (hQ _ h)
            replace h := h.2 hb5
            refine Wl.guardF rfl rfl hb5 rfl ?_
            refine Wl.guardF rfl rfl hb5 rfl ?_
            refine Wl.guardF rfl rfl hb5 rfl ?_
            refine wZ rg (o_pickF rfl hb5 (v := .bool false) rfl (mvZ (.bool false) rfl ?_))
            refine Wl.guardF rfl rfl rfl rfl ?_
            refine Wl.guardF rfl rfl rfl rfl ?_
            refine Wl.guardF rfl rfl rfl rfl ?_
            refine Wl.guardF rfl rfl rfl rfl ?_
            refine wZ rg (o_pickF rfl rfl (v := .bool false) rfl (mvZ (.bool false) rfl ?_))
            refine Wl.guardF rfl rfl rfl rfl ?_
            refine Wl.guardF rfl rfl rfl rfl ?_
            refine Wl.guardF rfl rfl rfl rfl ?_
            refine Wl.guardF rfl rfl rfl rfl ?_
            refine wZ rg (o_pickF rfl rfl (v := .bool false) rfl (mvZ (.bool false) rfl ?_))
            refine Wl.guardF rfl rfl rfl rfl ?_
            refine Wl.guardF rfl rfl rfl rfl ?_
            refine Wl.guardF rfl rfl rfl rfl ?_
            refine Wl.guardF rfl rfl rfl rfl ?_
            refine wZ rg (o_pickF rfl rfl (v := .bool false) rfl (asZ (.bool false) rfl (nZ ?_)))
            refine Vc.ret' ?_
            refine res_tmp (v := .bool false) rfl (res_nil ?_)
            show Gives _ (.bool false) _
            exact gives_out hrg (VW.refl _) (hQ _ h)
          replace h := h.2 hb4
          refine Wl.guardF rfl rfl hb4 rfl ?_
          refine Wl.guardF rfl rfl hb4 rfl ?_
          refine wZ rg (o_pickF rfl hb4 (v := .bool false) rfl (mvZ (.bool false) rfl ?_))
          refine Wl.guardF rfl rfl rfl rfl ?_
          refine Wl.guardF rfl rfl rfl rfl ?_
          refine Wl.guardF rfl rfl rfl rfl ?_
          refine Wl.guardF rfl rfl rfl rfl ?_
          refine wZ rg (o_pickF rfl rfl (v := .bool false) rfl (mvZ (.bool false) rfl ?_))
          refine Wl.guardF rfl rfl rfl rfl ?_
          refine Wl.guardF rfl rfl rfl rfl ?_
          refine Wl.guardF rfl rfl rfl rfl ?_
          refine Wl.guardF rfl rfl rfl rfl ?_
          refine wZ rg (o_pickF rfl rfl (v := .bool false) rfl (mvZ (.bool false) rfl ?_))
          refine Wl.guardF rfl rfl rfl rfl ?_
          refine Wl.guardF rfl rfl rfl rfl ?_
          refine Wl.guardF rfl rfl rfl rfl ?_
          refine Wl.guardF rfl rfl rfl rfl ?_
          refine wZ rg (o_pickF rfl rfl (v := .bool false) rfl (mvZ (.bool false) rfl ?_))
          refine Wl.guardF rfl rfl rfl rfl ?_
          refine Wl.guardF rfl rfl rfl rfl ?_
          refine Wl.guardF rfl rfl rfl rfl ?_
          refine Wl.guardF rfl rfl rfl rfl ?_
          refine wZ rg (o_pickF rfl rfl (v := .bool false) rfl (asZ (.bool false) rfl (nZ ?_)))
          refine Vc.ret' ?_
          refine res_tmp (v := .bool false) rfl (res_nil ?_)
          show Gives _ (.bool false) _
          exact gives_out hrg (VW.refl _) (hQ _ h)
        replace h := h.2 hb3
        refine Wl.guardF rfl rfl hb3 rfl ?_
        refine wZ rg (o_pickF rfl hb3 (v := .bool false) rfl (mvZ (.bool false) rfl ?_))
        refine Wl.guardF rfl rfl rfl rfl ?_
        refine Wl.guardF rfl rfl rfl rfl ?_
        refine Wl.guardF rfl rfl rfl rfl ?_
        refine wZ rg (o_pickF rfl rfl (v := .bool false) rfl (mvZ (.bool false) rfl ?_))
        refine Wl.guardF rfl rfl rfl rfl ?_
        refine Wl.guardF rfl rfl rfl rfl ?_
        refine Wl.guardF rfl rfl rfl rfl ?_
        refine Wl.guardF rfl rfl rfl rfl ?_
        refine wZ rg (o_pickF rfl rfl (v := .bool false) rfl (mvZ (.bool false) rfl ?_))
        refine Wl.guardF rfl rfl rfl rfl ?_
        refine Wl.guardF rfl rfl rfl rfl ?_
        refine Wl.guardF rfl rfl rfl rfl ?_
        refine Wl.guardF rfl rfl rfl rfl ?_
        refine wZ rg (o_pickF rfl rfl (v := .bool false) rfl (mvZ (.bool false) rfl ?_))
        refine Wl.guardF rfl rfl rfl rfl ?_
        refine Wl.guardF rfl rfl rfl rfl ?_
        refine Wl.guardF rfl rfl rfl rfl ?_
        refine Wl.guardF rfl rfl rfl rfl ?_
        refine wZ rg (o_pickF rfl rfl (v := .bool false) rfl (mvZ (.bool false) rfl ?_))
        refine Wl.guardF rfl rfl rfl rfl ?_
        refine Wl.guardF rfl rfl rfl rfl ?_
        refine Wl.guardF rfl rfl rfl rfl ?_
        refine Wl.guardF rfl rfl rfl rfl ?_
        refine wZ rg (o_pickF rfl rfl (v := .bool false) rfl (asZ (.bool false) rfl (nZ ?_)))
        refine Vc.ret' ?_
        refine res_tmp (v := .bool false) rfl (res_nil ?_)
        show Gives _ (.bool false) _
        exact gives_out hrg (VW.refl _) (hQ _ h)
      replace h := h.2 hb2
      refine Wl.guardF rfl rfl hb2 rfl ?_
      refine wZ rg (o_pickF rfl hb2 (v := .bool false) rfl (mvZ (.bool false) rfl ?_))
      refine Wl.guardF rfl rfl rfl rfl ?_
      refine Wl.guardF rfl rfl rfl rfl ?_
      refine wZ rg (o_pickF rfl rfl (v := .bool false) rfl (mvZ (.bool false) rfl ?_))
      refine Wl.guardF rfl rfl rfl rfl ?_
      refine Wl.guardF rfl rfl rfl rfl ?_
      refine Wl.guardF rfl rfl rfl rfl ?_
      refine wZ rg (o_pickF rfl rfl (v := .bool false) rfl (mvZ (.bool false) rfl ?_))
      refine Wl.guardF rfl rfl rfl rfl ?_
      refine Wl.guardF rfl rfl rfl rfl ?_
      refine Wl.guardF rfl rfl rfl rfl ?_
      refine Wl.guardF rfl rfl rfl rfl ?_
      refine wZ rg (o_pickF rfl rfl (v := .bool false) rfl (mvZ (.bool false) rfl ?_))
      refine Wl.guardF rfl rfl rfl rfl ?_
      refine Wl.guardF rfl rfl rfl rfl ?_
      refine Wl.guardF rfl rfl rfl rfl ?_
      refine Wl.guardF rfl rfl rfl rfl ?_
      refine wZ rg (o_pickF rfl rfl (v := .bool false) rfl (mvZ (.bool false) rfl ?_))
      refine Wl.guardF rfl rfl rfl rfl ?_
      refine Wl.guardF rfl rfl rfl rfl ?_
      refine Wl.guardF rfl rfl rfl rfl ?_
      refine Wl.guardF rfl rfl rfl rfl ?_
      refine wZ rg (o_pickF rfl rfl (v := .bool false) rfl (mvZ (.bool false) rfl ?_))
      refine Wl.guardF rfl rfl rfl rfl ?_
      refine Wl.guardF rfl rfl rfl rfl ?_
      refine Wl.guardF rfl rfl rfl rfl ?_
      refine Wl.guardF rfl rfl rfl rfl ?_
      refine wZ rg (o_pickF rfl rfl (v := .bool false) rfl (asZ (.bool false) rfl (nZ ?_)))
      refine Vc.ret' ?_
      refine res_tmp (v := .bool false) rfl (res_nil ?_)
      show Gives _ (.bool false) _
      exact gives_out hrg (VW.refl _) (hQ _ h)
    replace h := h.2 hb1
    refine Vc.skip' ?_
    refine qZ (qZ (rZ (mvZ (eErr 83 r4) rfl (wZ rg (o_isnon td29 (E := 83) rfl rfl rfl (mvZ (.bool (Option.isSome r4)) rfl ?_))))))
    refine Wl.guard rfl rfl (fun hb9 => ?_) (fun hb9 => ?_)
    · replace h := h.2 hb9
      refine mvZ (eErr 83 r6) rfl ?_
      refine Wl.guardT rfl rfl hb9 ?_
      refine wZ rg (o_isnon td29 (E := 83) rfl rfl rfl (wZ rg (o_pickF rfl hb9 (v := .bool (Option.isSome r6)) rfl (mvZ (.bool (Option.isSome r6)) rfl ?_))))
      refine Wl.guard rfl rfl (fun hb10 => ?_) (fun hb10 => ?_)
      · replace h := h.2 hb10
        refine mvZ (eErr 83 r8) rfl ?_
        refine Wl.guardT rfl rfl hb10 ?_
        refine wZ rg (o_isnon td29 (E := 83) rfl rfl rfl (wZ rg (o_pickF rfl hb10 (v := .bool (Option.isSome r8)) rfl (mvZ (.bool (Option.isSome r8)) rfl ?_))))
        refine Wl.guard rfl rfl (fun hb11 => ?_) (fun hb11 => ?_)
        · replace h := h.2 hb11
          refine mvZ (.int .i64 r3) rfl ?_
          refine Wl.guardT rfl rfl hb11 ?_
          refine wZ rg (o_loadBA (atL (k := 2) rfl) sz25 (by decide) ag25 rfl rfl (v := eDiagram d) rfl ?_)
          refine Wl.guardT rfl rfl hb11 ?_
          refine wZ rg (o_call (us := [eDiagram d]) rfl (vl' vr (vn)) (ref15_Support_ctr h fun r13 h => ?_))
          refine Wl.guardT rfl rfl hb11 ?_
          refine wZ rg (o_neq rfl rfl (wZ rg (o_pickF rfl hb11 (v := .bool (r3 != r13)) rfl (mvZ (.bool (r3 != r13)) rfl ?_))))
          refine Wl.guard rfl rfl (fun hb12 => ?_) (fun hb12 => ?_)
          · replace h := h.2 hb12
            refine mvZ (.int .i64 r5) rfl ?_
            refine Wl.guardT rfl rfl hb12 ?_
            refine wZ rg (o_faP td25 rfl rfl (by rw [sz23]; decide) rfl ?_)
            refine Wl.guardT rfl rfl hb12 ?_
            refine wZ rg (o_loadB1 (atL (k := 2) rfl) sz23 ag23 rfl rfl (v := eL eDNode d.Nodes) rfl ?_)
            refine Wl.guardT rfl rfl hb12 ?_
            refine wZ rg (o_len td23 rfl ?_)
            refine Wl.guardT rfl rfl hb12 ?_
            refine wZ rg (o_neq rfl rfl (wZ rg (o_pickF rfl hb12 (v := .bool (r5 != (d.Nodes.length : Int))) rfl (mvZ (.bool (r5 != (d.Nodes.length : Int))) rfl ?_))))
            refine Wl.guard rfl rfl (fun hb13 => ?_) (fun hb13 => ?_)
            · replace h := h.2 hb13
              refine mvZ (eL (AV.int .i64) r7) rfl ?_
              refine Wl.guardT rfl rfl hb13 ?_
              refine wZ rg (o_loadBA (atL (k := 2) rfl) sz25 (by decide) ag25 rfl rfl (v := eDiagram d) rfl ?_)
              refine Wl.guardT rfl rfl hb13 ?_
              refine wZ rg (o_call (us := [eDiagram d]) rfl (vl' vr (vn)) (ref15_Levels_ctr h fun r14 h => ?_))
              refine Wl.guardT rfl rfl hb13 ?_
              refine wZ rg (o_call (us := [eL (AV.int .i64) r7, eL (AV.int .i64) r14]) rfl (vl' vr (vl' vr (vn))) (base_Ints_ctr h fun r15 h => ?_))
              refine Wl.guardT rfl rfl hb13 ?_
              refine wZ rg (o_not rfl (wZ rg (o_pickF rfl hb13 (v := .bool (!r15)) rfl (nZ ?_))))
              refine Vc.cond' rfl (fun hb14 => ?_) (fun hb14 => ?_)
              · replace h := h.1 hb14
                refine qZ (rZ (asZ (.bool false) rfl (nZ ?_)))
                refine Vc.ret' ?_
                refine res_tmp (v := .bool false) rfl (res_nil ?_)
                show Gives _ (.bool false) _
                exact gives_out hrg (VW.refl _) (hQ _ h)
              replace h := h.2 hb14
              refine Vc.skip' ?_
              refine qZ ?_
              obtain ⟨J, h, hJ⟩ := h
              refine Vc.join' (σ := ((Bool) × (Nat))) (fun y => J y.1) (fun y => envOf [(1, .int .i64 state), (2, .ptr rg 2 y.2 0 0), (5, .bool r1), (6, eErr 83 r2), (124, .bool y.1)]) (fun y => stL S rg [(2, .arr 3 [eDiagram d], y.2)]) (fun y h => ?_) ?_
              · obtain ⟨x1, g3⟩ := y
                replace h := hJ x1 h
                show Vc _ _ _ _ (envOf [(1, .int .i64 state), (2, .ptr rg 2 g3 0 0), (5, .bool r1), (6, eErr 83 r2), (124, .bool x1)]) (stL S rg [(2, .arr 3 [eDiagram d], g3)])
                refine Vc.cond' rfl (fun hb15 => ?_) (fun hb15 => ?_)
                · replace h := h.1 hb15
                  refine qZ (rZ (mvZ (.bool r1) rfl (wZ rg (o_not rfl (mvZ (.bool (!r1)) rfl ?_)))))
                  refine Wl.guard rfl rfl (fun hb16 => ?_) (fun hb16 => ?_)
                  · replace h := h.1 hb16
                    refine mvZ (eErr 83 r2) rfl ?_
                    refine Wl.guardT rfl rfl hb16 ?_
                    refine wZ rg (o_call (us := [eErr 83 r2, AV.int .i64 3]) rfl (vl' vr (vl' vr (vn))) (base_Is_ctr h fun r16 h => (wZ rg (o_pickT rfl hb16 (v := .bool r16) rfl (asZ (.bool r16) rfl (nZ ?_))))))
                    refine Vc.ret' ?_
                    refine res_tmp (v := .bool r16) rfl (res_nil ?_)
                    show Gives _ (.bool r16) _
                    exact gives_out hrg (VW.refl _) (hQ _ h)
                  replace h := h.2 hb16
                  refine Wl.guardF rfl rfl hb16 rfl ?_
                  refine wZ rg (o_pickF rfl hb16 (v := .bool false) rfl (asZ (.bool false) rfl (nZ ?_)))
                  refine Vc.ret' ?_
                  refine res_tmp (v := .bool false) rfl (res_nil ?_)
                  show Gives _ (.bool false) _
                  exact gives_out hrg (VW.refl _) (hQ _ h)
                replace h := h.2 hb15
                refine Vc.skip' ?_
                refine qZ (rZ (mvZ (eErr 83 r2) rfl (wZ rg (o_isnil td29 (E := 83) rfl rfl rfl (mvZ (.bool (Option.isNone r2)) rfl ?_)))))
                refine Wl.guard rfl rfl (fun hb17 => ?_) (fun hb17 => ?_)
                · replace h := h.1 hb17
                  refine mvZ (.bool r1) rfl ?_
                  refine Wl.guardT rfl rfl hb17 ?_
                  refine wZ rg (o_loadBA (atL (k := 2) rfl) sz25 (by decide) ag25 rfl rfl (v := eDiagram d) rfl ?_)
                  refine Wl.guardT rfl rfl hb17 ?_
                  refine mvZ (.int .i64 state) rfl ?_
                  refine Wl.guardT rfl rfl hb17 ?_
                  refine wZ rg (o_call (us := [eDiagram d, AV.int .i64 state]) rfl (vl' vr (vl' vr (vn))) (ref15_Value_ctr h fun r17 h => ?_))
                  refine Wl.guardT rfl rfl hb17 ?_
                  refine wZ rg (o_eqlB td4 rfl rfl (wZ rg (o_pickT rfl hb17 (v := .bool (r1 == r17)) rfl (asZ (.bool (r1 == r17)) rfl (nZ ?_)))))
                  refine Vc.ret' ?_
                  refine res_tmp (v := .bool (r1 == r17)) rfl (res_nil ?_)
                  show Gives _ (.bool (r1 == r17)) _
                  exact gives_out hrg (VW.refl _) (hQ _ h)
                replace h := h.2 hb17
                refine Wl.guardF rfl rfl hb17 rfl ?_
                refine Wl.guardF rfl rfl hb17 rfl ?_
                refine Wl.guardF rfl rfl hb17 rfl ?_
                refine Wl.guardF rfl rfl hb17 rfl ?_
                refine wZ rg (o_pickF rfl hb17 (v := .bool false) rfl (asZ (.bool false) rfl (nZ ?_)))
                refine Vc.ret' ?_
                refine res_tmp (v := .bool false) rfl (res_nil ?_)
                show Gives _ (.bool false) _
                exact gives_out hrg (VW.refl _) (hQ _ h)
              refine rZ ?_
              refine mvZ (.int .i64 state) rfl (wZ rg (o_lss rfl rfl (mvZ (.bool (decide (state < 0))) rfl ?_)))
              refine Wl.guard rfl rfl (fun hb18 => ?_) (fun hb18 => ?_)
              · replace h := h.2 hb18
                refine mvZ (.int .i64 state) rfl ?_
                refine Wl.guardT rfl rfl hb18 ?_
                refine wZ rg (o_faP td25 rfl rfl (by rw [sz22]; decide) rfl ?_)
                refine Wl.guardT rfl rfl hb18 ?_
                refine wZ rg (o_loadB1 (atL (k := 2) rfl) sz22 ag22 rfl rfl (v := eL (AV.int .i64) d.Order) rfl ?_)
                refine Wl.guardT rfl rfl hb18 ?_
                refine wZ rg (o_len td22 rfl ?_)
                refine Wl.guardT rfl rfl hb18 ?_
                refine wZ rg (o_shlG rfl rfl h.1 ?_)
                replace h := h.2
                refine Wl.guardT rfl rfl hb18 ?_
                refine wZ rg (o_geq rfl rfl (wZ rg (o_pickF rfl hb18 (v := .bool (decide ((1 * 2 ^ (Int.toNat (d.Order.length : Int))) ≤ state))) rfl (nZ ?_))))
                exact ⟨((decide ((1 * 2 ^ (Int.toNat (d.Order.length : Int))) ≤ state)), g2), (canon (fc vr (fc vr (fc vr (fc vr (fc vr (fn)))))) (sc rfl (sn))), h⟩
              replace h := h.1 hb18
              refine Wl.guardF rfl rfl hb18 rfl ?_
              refine Wl.guardF rfl rfl hb18 rfl ?_
              refine Wl.guardF rfl rfl hb18 rfl ?_
              refine Wl.guardF rfl rfl hb18 rfl ?_
              refine Wl.guardF rfl rfl hb18 rfl ?_
              refine wZ rg (o_pickT rfl hb18 (v := .bool true) rfl (nZ ?_))
              exact ⟨(true, g2), (canon (fc vr (fc vr (fc vr (fc vr (fc vr (fn)))))) (sc rfl (sn))), h⟩
            replace h := h.1 hb13
            refine Wl.guardF rfl rfl hb13 rfl ?_
            refine Wl.guardF rfl rfl hb13 rfl ?_
            refine Wl.guardF rfl rfl hb13 rfl ?_
            refine Wl.guardF rfl rfl hb13 rfl ?_
            refine wZ rg (o_pickT rfl hb13 (v := .bool true) rfl (nZ ?_))
            refine Vc.cond' rfl (fun _ => ?_) (fun hb => Bool.noConfusion hb)
            refine qZ (rZ (asZ (.bool false) rfl (nZ ?_)))
            refine Vc.ret' ?_
            refine res_tmp (v := .bool false) rfl (res_nil ?_)
            show Gives _ (.bool false) _
            exact gives_out hrg (VW.refl _) (hQ _ h)
          replace h := h.1 hb12
          refine Wl.guardF rfl rfl hb12 rfl ?_
          refine Wl.guardF rfl rfl hb12 rfl ?_
          refine Wl.guardF rfl rfl hb12 rfl ?_
          refine Wl.guardF rfl rfl hb12 rfl ?_
          refine wZ rg (o_pickT rfl hb12 (v := .bool true) rfl (mvZ (.bool true) rfl ?_))
          refine Wl.guardF rfl rfl rfl rfl ?_
          refine Wl.guardF rfl rfl rfl rfl ?_
          refine Wl.guardF rfl rfl rfl rfl ?_
          refine Wl.guardF rfl rfl rfl rfl ?_
          refine Wl.guardF rfl rfl rfl rfl ?_
          refine wZ rg (o_pickT rfl rfl (v := .bool true) rfl (nZ ?_))
          refine Vc.cond' rfl (fun _ => ?_) (fun hb => Bool.noConfusion hb)
          refine qZ (rZ (asZ (.bool false) rfl (nZ ?_)))
          refine Vc.ret' ?_
          refine res_tmp (v := .bool false) rfl (res_nil ?_)
          show Gives _ (.bool false) _
          exact gives_out hrg (VW.refl _) (hQ _ h)
        replace h := h.1 hb11
        refine Wl.guardF rfl rfl hb11 rfl ?_
        refine Wl.guardF rfl rfl hb11 rfl ?_
        refine Wl.guardF rfl rfl hb11 rfl ?_
        refine wZ rg (o_pickT rfl hb11 (v := .bool true) rfl (mvZ (.bool true) rfl ?_))
        refine Wl.guardF rfl rfl rfl rfl ?_
        refine Wl.guardF rfl rfl rfl rfl ?_
        refine Wl.guardF rfl rfl rfl rfl ?_
        refine Wl.guardF rfl rfl rfl rfl ?_
        refine Wl.guardF rfl rfl rfl rfl ?_
        refine wZ rg (o_pickT rfl rfl (v := .bool true) rfl (mvZ (.bool true) rfl ?_))
        refine Wl.guardF rfl rfl rfl rfl ?_
        refine Wl.guardF rfl rfl rfl rfl ?_
        refine Wl.guardF rfl rfl rfl rfl ?_
        refine Wl.guardF rfl rfl rfl rfl ?_
        refine Wl.guardF rfl rfl rfl rfl ?_
        refine wZ rg (o_pickT rfl rfl (v := .bool true) rfl (nZ ?_))
        refine Vc.cond' rfl (fun _ => ?_) (fun hb => Bool.noConfusion hb)
        refine qZ (rZ (asZ (.bool false) rfl (nZ ?_)))
        refine Vc.ret' ?_
        refine res_tmp (v := .bool false) rfl (res_nil ?_)
        show Gives _ (.bool false) _
        exact gives_out hrg (VW.refl _) (hQ _ h)
      replace h := h.1 hb10
      refine Wl.guardF rfl rfl hb10 rfl ?_
      refine wZ rg (o_pickT rfl hb10 (v := .bool true) rfl (mvZ (.bool true) rfl ?_))
      refine Wl.guardF rfl rfl rfl rfl ?_
      refine Wl.guardF rfl rfl rfl rfl ?_
      refine Wl.guardF rfl rfl rfl rfl ?_
      refine Wl.guardF rfl rfl rfl rfl ?_
      refine wZ rg (o_pickT rfl rfl (v := .bool true) rfl (mvZ (.bool true) rfl ?_))
      refine Wl.guardF rfl rfl rfl rfl ?_
      refine Wl.guardF rfl rfl rfl rfl ?_
      refine Wl.guardF rfl rfl rfl rfl ?_
      refine Wl.guardF rfl rfl rfl rfl ?_
      refine Wl.guardF rfl rfl rfl rfl ?_
      refine wZ rg (o_pickT rfl rfl (v := .bool true) rfl (mvZ (.bool true) rfl ?_))
      refine Wl.guardF rfl rfl rfl rfl ?_
      refine Wl.guardF rfl rfl rfl rfl ?_
      refine Wl.guardF rfl rfl rfl rfl ?_
      refine Wl.guardF rfl rfl rfl rfl ?_
      refine Wl.guardF rfl rfl rfl rfl ?_
      refine wZ rg (o_pickT rfl rfl (v := .bool true) rfl (nZ ?_))
      refine Vc.cond' rfl (fun _ => ?_) (fun hb => Bool.noConfusion hb)
      refine qZ (rZ (asZ (.bool false) rfl (nZ ?_)))
      refine Vc.ret' ?_
      refine res_tmp (v := .bool false) rfl (res_nil ?_)
      show Gives _ (.bool false) _
      exact gives_out hrg (VW.refl _) (hQ _ h)
    replace h := h.1 hb9
    refine Wl.guardF rfl rfl hb9 rfl ?_
    refine wZ rg (o_pickT rfl hb9 (v := .bool true) rfl (mvZ (.bool true) rfl ?_))
    refine Wl.guardF rfl rfl rfl rfl ?_
    refine Wl.guardF rfl rfl rfl rfl ?_
    refine wZ rg (o_pickT rfl rfl (v := .bool true) rfl (mvZ (.bool true) rfl ?_))
    refine Wl.guardF rfl rfl rfl rfl ?_
    refine Wl.guardF rfl rfl rfl rfl ?_
    refine Wl.guardF rfl rfl rfl rfl ?_
    refine Wl.guardF rfl rfl rfl rfl ?_
    refine wZ rg (o_pickT rfl rfl (v := .bool true) rfl (mvZ (.bool true) rfl ?_))
    refine Wl.guardF rfl rfl rfl rfl ?_
    refine Wl.guardF rfl rfl rfl rfl ?_
    refine Wl.guardF rfl rfl rfl rfl ?_
    refine Wl.guardF rfl rfl rfl rfl ?_
    refine Wl.guardF rfl rfl rfl rfl ?_
    refine wZ rg (o_pickT rfl rfl (v := .bool true) rfl (mvZ (.bool true) rfl ?_))
    refine Wl.guardF rfl rfl rfl rfl ?_
    refine Wl.guardF rfl rfl rfl rfl ?_
    refine Wl.guardF rfl rfl rfl rfl ?_
    refine Wl.guardF rfl rfl rfl rfl ?_
    refine Wl.guardF rfl rfl rfl rfl ?_
    refine wZ rg (o_pickT rfl rfl (v := .bool true) rfl (nZ ?_))
    refine Vc.cond' rfl (fun _ => ?_) (fun hb => Bool.noConfusion hb)
    refine qZ (rZ (asZ (.bool false) rfl (nZ ?_)))
    refine Vc.ret' ?_
    refine res_tmp (v := .bool false) rfl (res_nil ?_)
    show Gives _ (.bool false) _
    exact gives_out hrg (VW.refl _) (hQ _ h)
  refine rZ ?_
  refine wZ rg (o_call (us := []) rfl (vn) (law15_awake_ctr h fun r18 h => (wZ rg (o_not rfl (mvZ (.bool (!r18)) rfl ?_)))))
  refine Wl.guard rfl rfl (fun hb19 => ?_) (fun hb19 => ?_)
  · replace h := h.2 hb19
    refine wZ rg (o_loadBA (atL (k := 2) rfl) sz25 (by decide) ag25 rfl rfl (v := eDiagram d) rfl ?_)
    refine Wl.guardT rfl rfl hb19 ?_
    refine wZ rg (o_call (us := [eDiagram d]) rfl (vl' vr (vn)) (law15_large_ctr h fun r19 h => (wZ rg (o_pickF rfl hb19 (v := .bool r19) rfl (nZ ?_)))))
    exact ⟨(r19, g1), (canon (fc vr (fc vr (fc vr (fn)))) (sc rfl (sn))), h⟩
  replace h := h.1 hb19
  refine Wl.guardF rfl rfl hb19 rfl ?_
  refine wZ rg (o_pickT rfl hb19 (v := .bool true) rfl (nZ ?_))
  exact ⟨(true, g1), (canon (fc vr (fc vr (fc vr (fn)))) (sc rfl (sn))), h⟩
end Go.Proofs.Ytllegjdggcmgaaa
