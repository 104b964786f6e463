/- Walks of functions. Conditions: none. -/
import Derived.Test.YtiamkdpljeemkaaWa
import Derived.Test.YtiamkdpljeemkaaGgTy
import Derived.Test.YtiamkdpljeemkaaK1
import Derived.Test.YtiamkdpljeemkaaK3
import Derived.Test.YtiamkdpljeemkaaK10
import Derived.Test.YtiamkdpljeemkaaK13
import Derived.Test.YtiamkdpljeemkaaK2
import Derived.Test.YtiamkdpljeemkaaK9
/- Walks of functions. Conditions: none. -/
namespace Go.Proofs.Ytiamkdpljeemkaa
open Go.Gg
set_option maxRecDepth 100000
set_option maxHeartbeats 4000000 in
theorem law17_SiftingKeeps_ctr {d : GDiagram} {o : List Int} {state : Int} {Q : Bool → Prop} {S : St} {R : AV → St → Prop} (h : law17_SiftingKeeps_W d o state Q) (hQ : ∀ r1, Q r1 → R (AV.bool r1) S) :
    Ctr Try.prog 17 [eDiagram d, eL (AV.int .i64) o, AV.int .i64 state] S R := by
  unfold law17_SiftingKeeps_W at h
  refine enterT Try.func17 rfl Try.ntmps17 Try.results17 (by kernel_rfl) (fun rg hrg => ?_)
  refine qZ (rZ (wZ rg (o_box (v := eDiagram d) rfl rfl (kk := 3) rfl (by decide) (fun g1 => (asZ (.bool false) rfl (nZ (qZ ?_)))))))
  obtain ⟨J, h, hJ⟩ := h
  refine Vc.join' (σ := ((Bool) × (Nat))) (fun y => J y.1) (fun y => envOf [(1, eL (AV.int .i64) o), (2, .int .i64 state), (3, .ptr rg 3 y.2 0 0), (55, .bool y.1)]) (fun y => stL S rg [(3, .arr 3 [eDiagram d], y.2)]) (fun y h => ?_) ?_
  · obtain ⟨x, g2⟩ := y
    replace h := hJ x h
    show Vc _ _ _ _ (envOf [(1, eL (AV.int .i64) o), (2, .int .i64 state), (3, .ptr rg 3 g2 0 0), (55, .bool x)]) (stL S rg [(3, .arr 3 [eDiagram d], g2)])
    refine Vc.cond' rfl (fun hb => ?_) (fun hb => ?_)
    · replace h := h.1 hb
      refine qZ (rZ (wZ rg (o_call (us := []) rfl (vn) (law17_awake_ctr h fun r h => (asZ (.bool r) rfl (nZ ?_))))))
      refine Vc.ret' ?_
      refine res_tmp (v := .bool r) rfl (res_nil ?_)
      show Gives _ (.bool r) _
      exact gives_out hrg (VW.refl _) (hQ _ h)
    replace h := h.2 hb
    refine Vc.skip' ?_
    refine qZ (rZ (wZ rg (o_loadBA (atL (k := 3) rfl) sz30 (by decide) ag30 rfl rfl (v := eDiagram d) rfl (mvZ (eL (AV.int .i64) o) rfl (wZ rg (o_call (us := [eDiagram d, eL (AV.int .i64) o]) rfl (vl' vr (vl' vr (vn))) (sifting_Reorder_ctr h fun r1 r2 h => (mvZ (.tuple [eDiagram r1, eErr 73 r2]) rfl (wZ rg (o_extract (v := eDiagram r1) rfl rfl rfl (wZ rg (o_extract (v := eErr 73 r2) rfl rfl rfl ?_))))))))))))
    refine wZ rg (o_alloc zav30 ok30 (kk := 3) rfl (fun g3 => (wZ rg (o_storeB (atL (k := 7) rfl) sz30 (by decide) rfl (w := eDiagram r1) rfl rfl rfl (v := eDiagram r1) rfl setL (asZ (eErr 73 r2) rfl (nZ (qZ (rZ (wZ rg (o_loadBA (atL (k := 3) rfl) sz30 (by decide) ag30 rfl rfl (v := eDiagram d) rfl (wZ rg (o_call (us := [eDiagram d]) rfl (vl' vr (vn)) (sifting_Sift_ctr h fun r3 r4 h => ?_)))))))))))))
    refine mvZ (.tuple [eDiagram r3, eErr 73 r4]) rfl (wZ rg (o_extract (v := eDiagram r3) rfl rfl rfl (wZ rg (o_extract (v := eErr 73 r4) rfl rfl rfl (wZ rg (o_alloc zav30 ok30 (kk := 3) rfl (fun g4 => (wZ rg (o_storeB (atL (k := 9) rfl) sz30 (by decide) rfl (w := eDiagram r3) rfl rfl rfl (v := eDiagram r3) rfl setL (asZ (eErr 73 r4) rfl (nZ (qZ (rZ ?_)))))))))))))
    refine wZ rg (o_loadBA (atL (k := 3) rfl) sz30 (by decide) ag30 rfl rfl (v := eDiagram d) rfl (mvZ (.int .i64 state) rfl (wZ rg (o_call (us := [eDiagram d, AV.int .i64 state]) rfl (vl' vr (vl' vr (vn))) (diagram_Value_ctr h fun r5 r6 h => (mvZ (.tuple [.bool r5, eErr 73 r6]) rfl (wZ rg (o_extract (v := .bool r5) rfl rfl rfl (wZ rg (o_extract (v := eErr 73 r6) rfl rfl rfl (asZ (.bool r5) rfl ?_)))))))))))
    refine asZ (eErr 73 r6) rfl (nZ (qZ (rZ (wZ rg (o_loadBA (atL (k := 7) rfl) sz30 (by decide) ag30 rfl rfl (v := eDiagram r1) rfl (mvZ (.int .i64 state) rfl (wZ rg (o_call (us := [eDiagram r1, AV.int .i64 state]) rfl (vl' vr (vl' vr (vn))) (diagram_Value_ctr h fun r7 r8 h => (mvZ (.tuple [.bool r7, eErr 73 r8]) rfl (wZ rg (o_extract (v := .bool r7) rfl rfl rfl ?_))))))))))))
    refine wZ rg (o_extract (v := eErr 73 r8) rfl rfl rfl (asZ (.bool r7) rfl (asZ (eErr 73 r8) rfl (nZ (qZ (rZ (wZ rg (o_loadBA (atL (k := 9) rfl) sz30 (by decide) ag30 rfl rfl (v := eDiagram r3) rfl (mvZ (.int .i64 state) rfl (wZ rg (o_call (us := [eDiagram r3, AV.int .i64 state]) rfl (vl' vr (vl' vr (vn))) (diagram_Value_ctr h fun r9 r10 h => (mvZ (.tuple [.bool r9, eErr 73 r10]) rfl ?_)))))))))))))
    refine wZ rg (o_extract (v := .bool r9) rfl rfl rfl (wZ rg (o_extract (v := eErr 73 r10) rfl rfl rfl (asZ (.bool r9) rfl (asZ (eErr 73 r10) rfl (nZ (qZ (rZ (wZ rg (o_loadBA (atL (k := 3) rfl) sz30 (by decide) ag30 rfl rfl (v := eDiagram d) rfl (wZ rg (o_call (us := [eDiagram d]) rfl (vl' vr (vn)) (diagram_Support_ctr h fun r11 r12 h => (mvZ (.tuple [.int .i64 r11, eErr 73 r12]) rfl ?_))))))))))))))
    refine wZ rg (o_extract (v := .int .i64 r11) rfl rfl rfl (wZ rg (o_extract (v := eErr 73 r12) rfl rfl rfl (asZ (.int .i64 r11) rfl (asZ (eErr 73 r12) rfl (nZ (qZ (rZ (wZ rg (o_loadBA (atL (k := 7) rfl) sz30 (by decide) ag30 rfl rfl (v := eDiagram r1) rfl (wZ rg (o_call (us := [eDiagram r1]) rfl (vl' vr (vn)) (diagram_Support_ctr h fun r13 r14 h => ?_)))))))))))))
    refine mvZ (.tuple [.int .i64 r13, eErr 73 r14]) rfl (wZ rg (o_extract (v := .int .i64 r13) rfl rfl rfl (wZ rg (o_extract (v := eErr 73 r14) rfl rfl rfl (asZ (.int .i64 r13) rfl (asZ (eErr 73 r14) rfl (nZ (qZ (rZ (wZ rg (o_loadBA (atL (k := 9) rfl) sz30 (by decide) ag30 rfl rfl (v := eDiagram r3) rfl ?_)))))))))))
    refine wZ rg (o_call (us := [eDiagram r3]) rfl (vl' vr (vn)) (diagram_Support_ctr h fun r15 r16 h => (mvZ (.tuple [.int .i64 r15, eErr 73 r16]) rfl (wZ rg (o_extract (v := .int .i64 r15) rfl rfl rfl (wZ rg (o_extract (v := eErr 73 r16) rfl rfl rfl (asZ (.int .i64 r15) rfl (asZ (eErr 73 r16) rfl (nZ (qZ (qZ (rZ (mvZ (eErr 73 r2) rfl (wZ rg (o_isnon td32 (E := 73) rfl rfl rfl ?_))))))))))))))))
    refine mvZ (.bool (Option.isSome r2)) rfl ?_
    refine Wl.guard rfl rfl (fun hb1 => ?_) (fun hb1 => ?_)
    · replace h := h.2 hb1
      refine mvZ (eErr 73 r4) rfl ?_
      refine Wl.guardT rfl rfl hb1 ?_
      refine wZ rg (o_isnon td32 (E := 73) rfl rfl rfl (wZ rg (o_pickF rfl hb1 (v := .bool (Option.isSome r4)) rfl (mvZ (.bool (Option.isSome r4)) rfl ?_))))
      refine Wl.guard rfl rfl (fun hb2 => ?_) (fun hb2 => ?_)
      · replace h := h.2 hb2
        refine mvZ (eErr 73 r6) rfl ?_
        refine Wl.guardT rfl rfl hb2 ?_
        refine wZ rg (o_isnon td32 (E := 73) rfl rfl rfl (wZ rg (o_pickF rfl hb2 (v := .bool (Option.isSome r6)) rfl (mvZ (.bool (Option.isSome r6)) rfl ?_))))
        refine Wl.guard rfl rfl (fun hb3 => ?_) (fun hb3 => ?_)
        · replace h := h.2 hb3
          refine mvZ (eErr 73 r8) rfl ?_
          refine Wl.guardT rfl rfl hb3 ?_
          refine wZ rg (o_isnon td32 (E := 73) rfl rfl rfl (wZ rg (o_pickF rfl hb3 (v := .bool (Option.isSome r8)) rfl (mvZ (.bool (Option.isSome r8)) rfl ?_))))
          refine Wl.guard rfl rfl (fun hb4 => ?_) (fun hb4 => ?_)
          · replace h := h.2 hb4
            refine mvZ (eErr 73 r10) rfl ?_
            refine Wl.guardT rfl rfl hb4 ?_
            refine wZ rg (o_isnon td32 (E := 73) rfl rfl rfl (wZ rg (o_pickF rfl hb4 (v := .bool (Option.isSome r10)) rfl (mvZ (.bool (Option.isSome r10)) rfl ?_))))
            refine Wl.guard rfl rfl (fun hb5 => ?_) (fun hb5 => ?_)
            · replace h := h.2 hb5
              refine mvZ (eErr 73 r12) rfl ?_
              refine Wl.guardT rfl rfl hb5 ?_
              refine wZ rg (o_isnon td32 (E := 73) rfl rfl rfl (wZ rg (o_pickF rfl hb5 (v := .bool (Option.isSome r12)) rfl (mvZ (.bool (Option.isSome r12)) rfl ?_))))
              refine Wl.guard rfl rfl (fun hb6 => ?_) (fun hb6 => ?_)
              · replace h := h.2 hb6
                refine mvZ (eErr 73 r14) rfl ?_
                refine Wl.guardT rfl rfl hb6 ?_
                refine wZ rg (o_isnon td32 (E := 73) rfl rfl rfl (wZ rg (o_pickF rfl hb6 (v := .bool (Option.isSome r14)) rfl (mvZ (.bool (Option.isSome r14)) rfl ?_))))
                refine Wl.guard rfl rfl (fun hb7 => ?_) (fun hb7 => ?_)
                · replace h := h.2 hb7
                  refine mvZ (eErr 73 r16) rfl ?_
                  refine Wl.guardT rfl rfl hb7 ?_
                  refine wZ rg (o_isnon td32 (E := 73) rfl rfl rfl (wZ rg (o_pickF rfl hb7 (v := .bool (Option.isSome r16)) rfl (nZ ?_))))
                  refine Vc.cond' rfl (fun hb8 => ?_) (fun hb8 => ?_)
                  · replace h := h.1 hb8
                    refine qZ (rZ (asZ (.bool false) rfl (nZ ?_)))
                    refine Vc.ret' ?_
                    refine res_tmp (v := .bool false) rfl (res_nil ?_)
                    show Gives _ (.bool false) _
                    exact gives_out hrg (VW.refl _) (hQ _ h)
                  replace h := h.2 hb8
                  refine Vc.skip' ?_
                  refine qZ (rZ (mvZ (.bool r7) rfl (mvZ (.bool r5) rfl (wZ rg (o_eqlB td4 rfl rfl (mvZ (.bool (r7 == r5)) rfl ?_))))))
                  refine Wl.guard rfl rfl (fun hb9 => ?_) (fun hb9 => ?_)
                  · replace h := h.1 hb9
                    refine mvZ (.bool r9) rfl ?_
                    refine Wl.guardT rfl rfl hb9 ?_
                    refine mvZ (.bool r5) rfl ?_
                    refine Wl.guardT rfl rfl hb9 ?_
                    refine wZ rg (o_eqlB td4 rfl rfl (wZ rg (o_pickT rfl hb9 (v := .bool (r9 == r5)) rfl (mvZ (.bool (r9 == r5)) rfl ?_))))
                    refine Wl.guard rfl rfl (fun hb10 => ?_) (fun hb10 => ?_)
                    · replace h := h.1 hb10
                      refine mvZ (.int .i64 r13) rfl ?_
                      refine Wl.guardT rfl rfl hb10 ?_
                      refine mvZ (.int .i64 r11) rfl ?_
                      refine Wl.guardT rfl rfl hb10 ?_
                      refine wZ rg (o_eql rfl rfl (wZ rg (o_pickT rfl hb10 (v := .bool (r13 == r11)) rfl (mvZ (.bool (r13 == r11)) rfl ?_))))
                      refine Wl.guard rfl rfl (fun hb11 => ?_) (fun hb11 => ?_)
                      · replace h := h.1 hb11
                        refine mvZ (.int .i64 r15) rfl ?_
                        refine Wl.guardT rfl rfl hb11 ?_
                        refine mvZ (.int .i64 r11) rfl ?_
                        refine Wl.guardT rfl rfl hb11 ?_
                        refine wZ rg (o_eql rfl rfl (wZ rg (o_pickT rfl hb11 (v := .bool (r15 == r11)) rfl (mvZ (.bool (r15 == r11)) rfl ?_))))
                        refine Wl.guard rfl rfl (fun hb12 => ?_) (fun hb12 => ?_)
                        · replace h := h.1 hb12
                          refine wZ rg (o_faP td30 rfl rfl (by rw [sz25]; decide) rfl ?_)
                          refine Wl.guardT rfl rfl hb12 ?_
                          refine wZ rg (o_loadB1 (atL (k := 7) rfl) sz25 ag25 rfl rfl (v := eL (AV.int .i64) r1.Order) rfl ?_)
                          refine Wl.guardT rfl rfl hb12 ?_
                          refine mvZ (eL (AV.int .i64) o) rfl ?_
                          refine Wl.guardT rfl rfl hb12 ?_
                          refine wZ rg (o_call (us := [eL (AV.int .i64) r1.Order, eL (AV.int .i64) o]) rfl (vl' vr (vl' vr (vn))) (base_Ints_ctr h fun r17 h => (wZ rg (o_pickT rfl hb12 (v := .bool r17) rfl (asZ (.bool r17) rfl (nZ ?_))))))
                          refine Vc.ret' ?_
                          refine res_tmp (v := .bool r17) rfl (res_nil ?_)
                          show Gives _ (.bool r17) _
                          exact gives_out hrg (VW.refl _) (hQ _ h)
                        replace h := h.2 hb12
                        refine Wl.guardF rfl rfl hb12 rfl ?_
                        refine Wl.guardF rfl rfl hb12 rfl ?_
                        refine Wl.guardF rfl rfl hb12 rfl ?_
                        refine wZ rg (o_pickF rfl hb12 (v := .bool false) rfl (asZ (.bool false) rfl (nZ ?_)))
                        refine Vc.ret' ?_
                        refine res_tmp (v := .bool false) rfl (res_nil ?_)
                        show Gives _ (.bool false) _
                        exact gives_out hrg (VW.refl _) (hQ _ h)
                      replace h := h.2 hb11
                      refine Wl.guardF rfl rfl hb11 rfl ?_
                      refine Wl.guardF rfl rfl hb11 rfl ?_
                      refine wZ rg (o_pickF rfl hb11 (v := .bool false) rfl (mvZ (.bool false) rfl ?_))
                      refine Wl.guardF rfl rfl rfl rfl ?_
                      refine Wl.guardF rfl rfl rfl rfl ?_
                      refine Wl.guardF rfl rfl rfl rfl ?_
                      refine Wl.guardF rfl rfl rfl rfl ?_
                      refine wZ rg (o_pickF rfl rfl (v := .bool false) rfl (asZ (.bool false) rfl (nZ ?_)))
                      refine Vc.ret' ?_
                      refine res_tmp (v := .bool false) rfl (res_nil ?_)
                      show Gives _ (.bool false) _
                      exact gives_out hrg (VW.refl _) (hQ _ h)
                    replace h := h.2 hb10
                    refine Wl.guardF rfl rfl hb10 rfl ?_
                    refine Wl.guardF rfl rfl hb10 rfl ?_
                    refine wZ rg (o_pickF rfl hb10 (v := .bool false) rfl (mvZ (.bool false) rfl ?_))
                    refine Wl.guardF rfl rfl rfl rfl ?_
                    refine Wl.guardF rfl rfl rfl rfl ?_
                    refine Wl.guardF rfl rfl rfl rfl ?_
                    refine wZ rg (o_pickF rfl rfl (v := .bool false) rfl (mvZ (.bool false) rfl ?_))
                    refine Wl.guardF rfl rfl rfl rfl ?_
                    refine Wl.guardF rfl rfl rfl rfl ?_
                    refine Wl.guardF rfl rfl rfl rfl ?_
                    refine Wl.guardF rfl rfl rfl rfl ?_
                    refine wZ rg (o_pickF rfl rfl (v := .bool false) rfl (asZ (.bool false) rfl (nZ ?_)))
                    refine Vc.ret' ?_
                    refine res_tmp (v := .bool false) rfl (res_nil ?_)
                    show Gives _ (.bool false) _
                    exact gives_out hrg (VW.refl _) (hQ _ h)
                  replace h := h.2 hb9
                  refine Wl.guardF rfl rfl hb9 rfl ?_
                  refine Wl.guardF rfl rfl hb9 rfl ?_
                  refine wZ rg (o_pickF rfl hb9 (v := .bool false) rfl (mvZ (.bool false) rfl ?_))
                  refine Wl.guardF rfl rfl rfl rfl ?_
                  refine Wl.guardF rfl rfl rfl rfl ?_
                  refine Wl.guardF rfl rfl rfl rfl ?_
                  refine wZ rg (o_pickF rfl rfl (v := .bool false) rfl (mvZ (.bool false) rfl ?_))
                  refine Wl.guardF rfl rfl rfl rfl ?_
                  refine Wl.guardF rfl rfl rfl rfl ?_
                  refine Wl.guardF rfl rfl rfl rfl ?_
                  refine wZ rg (o_pickF rfl rfl (v := .bool false) rfl (mvZ (.bool false) rfl ?_))
                  refine Wl.guardF rfl rfl rfl rfl ?_
                  refine Wl.guardF rfl rfl rfl rfl ?_
                  refine Wl.guardF rfl rfl rfl rfl ?_
                  refine Wl.guardF rfl rfl rfl rfl ?_
                  refine wZ rg (o_pickF rfl rfl (v := .bool false) rfl (asZ (.bool false) rfl (nZ ?_)))
                  refine Vc.ret' ?_
                  refine res_tmp (v := .bool false) rfl (res_nil ?_)
                  show Gives _ (.bool false) _
                  exact gives_out hrg (VW.refl _) (hQ _ h)
                replace h := h.1 hb7
                refine Wl.guardF rfl rfl hb7 rfl ?_
                refine wZ rg (o_pickT rfl hb7 (v := .bool true) rfl (nZ ?_))
                refine Vc.cond' rfl (fun _ => ?_) (fun hb => Bool.noConfusion hb)
                refine qZ (rZ (asZ (.bool false) rfl (nZ ?_)))
                refine Vc.ret' ?_
                refine res_tmp (v := .bool false) rfl (res_nil ?_)
                show Gives _ (.bool false) _
                exact gives_out hrg (VW.refl _) (hQ _ h)
              replace h := h.1 hb6
              refine Wl.guardF rfl rfl hb6 rfl ?_
              refine wZ rg (o_pickT rfl hb6 (v := .bool true) rfl (mvZ (.bool true) rfl ?_))
              refine Wl.guardF rfl rfl rfl rfl ?_
              refine Wl.guardF rfl rfl rfl rfl ?_
              refine wZ rg (o_pickT rfl rfl (v := .bool true) rfl (nZ ?_))
              refine Vc.cond' rfl (fun _ => ?_) (fun hb => Bool.noConfusion hb)
              refine qZ (rZ (asZ (.bool false) rfl (nZ ?_)))
              refine Vc.ret' ?_
              refine res_tmp (v := .bool false) rfl (res_nil ?_)
              show Gives _ (.bool false) _
              exact gives_out hrg (VW.refl _) (hQ _ h)
            replace h := h.1 hb5
            refine Wl.guardF rfl rfl hb5 rfl ?_
            refine wZ rg (o_pickT rfl hb5 (v := .bool true) rfl (mvZ (.bool true) rfl ?_))
            refine Wl.guardF rfl rfl rfl rfl ?_
            refine Wl.guardF rfl rfl rfl rfl ?_
            refine wZ rg (o_pickT rfl rfl (v := .bool true) rfl (mvZ (.bool true) rfl ?_))
            refine Wl.guardF rfl rfl rfl rfl ?_
            refine Wl.guardF rfl rfl rfl rfl ?_
            refine wZ rg (o_pickT rfl rfl (v := .bool true) rfl (nZ ?_))
            refine Vc.cond' rfl (fun _ => ?_) (fun hb => Bool.noConfusion hb)
            refine qZ (rZ (asZ (.bool false) rfl (nZ ?_)))
            refine Vc.ret' ?_
            refine res_tmp (v := .bool false) rfl (res_nil ?_)
            show Gives _ (.bool false) _
            exact gives_out hrg (VW.refl _) (hQ _ h)
          replace h := h.1 hb4
          refine Wl.guardF rfl rfl hb4 rfl ?_
          refine wZ rg (o_pickT rfl hb4 (v := .bool true) rfl (mvZ (.bool true) rfl ?_))
          refine Wl.guardF rfl rfl rfl rfl ?_
          refine Wl.guardF rfl rfl rfl rfl ?_
          refine wZ rg (o_pickT rfl rfl (v := .bool true) rfl (mvZ (.bool true) rfl ?_))
          refine Wl.guardF rfl rfl rfl rfl ?_
          refine Wl.guardF rfl rfl rfl rfl ?_
          refine wZ rg (o_pickT rfl rfl (v := .bool true) rfl (mvZ (.bool true) rfl ?_))
          refine Wl.guardF rfl rfl rfl rfl ?_
          refine Wl.guardF rfl rfl rfl rfl ?_
          refine wZ rg (o_pickT rfl rfl (v := .bool true) rfl (nZ ?_))
          refine Vc.cond' rfl (fun _ => ?_) (fun hb => Bool.noConfusion hb)
          refine qZ (rZ (asZ (.bool false) rfl (nZ ?_)))
          refine Vc.ret' ?_
          refine res_tmp (v := .bool false) rfl (res_nil ?_)
          show Gives _ (.bool false) _
          exact gives_out hrg (VW.refl _) (hQ _ h)
        replace h := h.1 hb3
        refine Wl.guardF rfl rfl hb3 rfl ?_
        refine wZ rg (o_pickT rfl hb3 (v := .bool true) rfl (mvZ (.bool true) rfl ?_))
        refine Wl.guardF rfl rfl rfl rfl ?_
        refine Wl.guardF rfl rfl rfl rfl ?_
        refine wZ rg (o_pickT rfl rfl (v := .bool true) rfl (mvZ (.bool true) rfl ?_))
        refine Wl.guardF rfl rfl rfl rfl ?_
        refine Wl.guardF rfl rfl rfl rfl ?_
        refine wZ rg (o_pickT rfl rfl (v := .bool true) rfl (mvZ (.bool true) rfl ?_))
        refine Wl.guardF rfl rfl rfl rfl ?_
        refine Wl.guardF rfl rfl rfl rfl ?_
        refine wZ rg (o_pickT rfl rfl (v := .bool true) rfl (mvZ (.bool true) rfl ?_))
        refine Wl.guardF rfl rfl rfl rfl ?_
        refine Wl.guardF rfl rfl rfl rfl ?_
        refine wZ rg (o_pickT rfl rfl (v := .bool true) rfl (nZ ?_))
        refine Vc.cond' rfl (fun _ => ?_) (fun hb => Bool.noConfusion hb)
        refine qZ (rZ (asZ (.bool false) rfl (nZ ?_)))
        refine Vc.ret' ?_
        refine res_tmp (v := .bool false) rfl (res_nil ?_)
        show Gives _ (.bool false) _
        exact gives_out hrg (VW.refl _) (hQ _ h)
      replace h := h.1 hb2
      refine Wl.guardF rfl rfl hb2 rfl ?_
      refine wZ rg (o_pickT rfl hb2 (v := .bool true) rfl (mvZ (.bool true) rfl ?_))
      refine Wl.guardF rfl rfl rfl rfl ?_
      refine Wl.guardF rfl rfl rfl rfl ?_
      refine wZ rg (o_pickT rfl rfl (v := .bool true) rfl (mvZ (.bool true) rfl ?_))
      refine Wl.guardF rfl rfl rfl rfl ?_
      refine Wl.guardF rfl rfl rfl rfl ?_
      refine wZ rg (o_pickT rfl rfl (v := .bool true) rfl (mvZ (.bool true) rfl ?_))
      refine Wl.guardF rfl rfl rfl rfl ?_
      refine Wl.guardF rfl rfl rfl rfl ?_
      refine wZ rg (o_pickT rfl rfl (v := .bool true) rfl (mvZ (.bool true) rfl ?_))
      refine Wl.guardF rfl rfl rfl rfl ?_
      refine Wl.guardF rfl rfl rfl rfl ?_
      refine wZ rg (o_pickT rfl rfl (v := .bool true) rfl (mvZ (.bool true) rfl ?_))
      refine Wl.guardF rfl rfl rfl rfl ?_
      refine Wl.guardF rfl rfl rfl rfl ?_
      refine wZ rg (o_pickT rfl rfl (v := .bool true) rfl (nZ ?_))
      refine Vc.cond' rfl (fun _ => ?_) (fun hb => Bool.noConfusion hb)
      refine qZ (rZ (asZ (.bool false) rfl (nZ ?_)))
      refine Vc.ret' ?_
      refine res_tmp (v := .bool false) rfl (res_nil ?_)
      show Gives _ (.bool false) _
      exact gives_out hrg (VW.refl _) (hQ _ h)
    replace h := h.1 hb1
    refine Wl.guardF rfl rfl hb1 rfl ?_
    refine wZ rg (o_pickT rfl hb1 (v := .bool true) rfl (mvZ (.bool true) rfl ?_))
    refine Wl.guardF rfl rfl rfl rfl ?_
    refine Wl.guardF rfl rfl rfl rfl ?_
    refine wZ rg (o_pickT rfl rfl (v := .bool true) rfl (mvZ (.bool true) rfl ?_))
    refine Wl.guardF rfl rfl rfl rfl ?_
    refine Wl.guardF rfl rfl rfl rfl ?_
    refine wZ rg (o_pickT rfl rfl (v := .bool true) rfl (mvZ (.bool true) rfl ?_))
    refine Wl.guardF rfl rfl rfl rfl ?_
    refine Wl.guardF rfl rfl rfl rfl ?_
    refine wZ rg (o_pickT rfl rfl (v := .bool true) rfl (mvZ (.bool true) rfl ?_))
    refine Wl.guardF rfl rfl rfl rfl ?_
    refine Wl.guardF rfl rfl rfl rfl ?_
    refine wZ rg (o_pickT rfl rfl (v := .bool true) rfl (mvZ (.bool true) rfl ?_))
    refine Wl.guardF rfl rfl rfl rfl ?_
    refine Wl.guardF rfl rfl rfl rfl ?_
    refine wZ rg (o_pickT rfl rfl (v := .bool true) rfl (mvZ (.bool true) rfl ?_))
    refine Wl.guardF rfl rfl rfl rfl ?_
    refine Wl.guardF rfl rfl rfl rfl ?_
    refine wZ rg (o_pickT rfl rfl (v := .bool true) rfl (nZ ?_))
    refine Vc.cond' rfl (fun _ => ?_) (fun hb => Bool.noConfusion hb)
    refine qZ (rZ (asZ (.bool false) rfl (nZ ?_)))
    refine Vc.ret' ?_
    refine res_tmp (v := .bool false) rfl (res_nil ?_)
    show Gives _ (.bool false) _
    exact gives_out hrg (VW.refl _) (hQ _ h)
  refine rZ ?_
  refine wZ rg (o_call (us := []) rfl (vn) (law17_awake_ctr h fun r18 h => (wZ rg (o_not rfl (mvZ (.bool (!r18)) rfl ?_)))))
  refine Wl.guard rfl rfl (fun hb13 => ?_) (fun hb13 => ?_)
  · replace h := h.2 hb13
    refine wZ rg (o_loadBA (atL (k := 3) rfl) sz30 (by decide) ag30 rfl rfl (v := eDiagram d) rfl ?_)
    refine Wl.guardT rfl rfl hb13 ?_
    refine wZ rg (o_call (us := [eDiagram d, AV.int .i64 8]) rfl (vl' vr (vl' vr (vn))) (law17_valid_ctr h fun r19 h => ?_))
    refine Wl.guardT rfl rfl hb13 ?_
    refine wZ rg (o_not rfl (wZ rg (o_pickF rfl hb13 (v := .bool (!r19)) rfl (mvZ (.bool (!r19)) rfl ?_))))
    refine Wl.guard rfl rfl (fun hb14 => ?_) (fun hb14 => ?_)
    · replace h := h.2 hb14
      refine mvZ (eL (AV.int .i64) o) rfl ?_
      refine Wl.guardT rfl rfl hb14 ?_
      refine wZ rg (o_len td25 rfl ?_)
      refine Wl.guardT rfl rfl hb14 ?_
      refine wZ rg (o_faP td30 rfl rfl (by rw [sz25]; decide) rfl ?_)
      refine Wl.guardT rfl rfl hb14 ?_
      refine wZ rg (o_loadB1 (atL (k := 3) rfl) sz25 ag25 rfl rfl (v := eL (AV.int .i64) d.Order) rfl ?_)
      refine Wl.guardT rfl rfl hb14 ?_
      refine wZ rg (o_len td25 rfl ?_)
      refine Wl.guardT rfl rfl hb14 ?_
      refine wZ rg (o_neq rfl rfl (wZ rg (o_pickF rfl hb14 (v := .bool ((o.length : Int) != (d.Order.length : Int))) rfl (mvZ (.bool ((o.length : Int) != (d.Order.length : Int))) rfl ?_))))
      refine Wl.guard rfl rfl (fun hb15 => ?_) (fun hb15 => ?_)
      · replace h := h.2 hb15
        refine mvZ (eL (AV.int .i64) o) rfl ?_
        refine Wl.guardT rfl rfl hb15 ?_
        refine mvZ (eL (AV.int .i64) o) rfl ?_
        refine Wl.guardT rfl rfl hb15 ?_
        refine wZ rg (o_len td25 rfl ?_)
        refine Wl.guardT rfl rfl hb15 ?_
        refine wZ rg (o_call (us := [eL (AV.int .i64) o, AV.int .i64 (o.length : Int)]) rfl (vl' vr (vl' vr (vn))) (ref14_Check_ctr h fun r20 h => ?_))
        refine Wl.guardT rfl rfl hb15 ?_
        refine wZ rg (o_neq rfl rfl (wZ rg (o_pickF rfl hb15 (v := .bool (r20 != 0)) rfl (mvZ (.bool (r20 != 0)) rfl ?_))))
        refine Wl.guard rfl rfl (fun hb16 => ?_) (fun hb16 => ?_)
        · replace h := h.2 hb16
          refine mvZ (.int .i64 state) rfl ?_
          refine Wl.guardT rfl rfl hb16 ?_
          refine wZ rg (o_lss rfl rfl (wZ rg (o_pickF rfl hb16 (v := .bool (decide (state < 0))) rfl (mvZ (.bool (decide (state < 0))) rfl ?_))))
          refine Wl.guard rfl rfl (fun hb17 => ?_) (fun hb17 => ?_)
          · replace h := h.2 hb17
            refine mvZ (.int .i64 state) rfl ?_
            refine Wl.guardT rfl rfl hb17 ?_
            refine mvZ (eL (AV.int .i64) o) rfl ?_
            refine Wl.guardT rfl rfl hb17 ?_
            refine wZ rg (o_len td25 rfl ?_)
            refine Wl.guardT rfl rfl hb17 ?_
            refine wZ rg (o_shlG rfl rfl h.1 ?_)
            replace h := h.2
            refine Wl.guardT rfl rfl hb17 ?_
            refine wZ rg (o_geq rfl rfl (wZ rg (o_pickF rfl hb17 (v := .bool (decide ((1 * 2 ^ (Int.toNat (o.length : Int))) ≤ state))) rfl (nZ ?_))))
            exact ⟨((decide ((1 * 2 ^ (Int.toNat (o.length : Int))) ≤ state)), g1), (canon (fc vr (fc vr (fc vr (fc vr (fn))))) (sc rfl (sn))), h⟩
          replace h := h.1 hb17
          refine Wl.guardF rfl rfl hb17 rfl ?_
          refine Wl.guardF rfl rfl hb17 rfl ?_
          refine Wl.guardF rfl rfl hb17 rfl ?_
          refine Wl.guardF rfl rfl hb17 rfl ?_
          refine wZ rg (o_pickT rfl hb17 (v := .bool true) rfl (nZ ?_))
          exact ⟨(true, g1), (canon (fc vr (fc vr (fc vr (fc vr (fn))))) (sc rfl (sn))), h⟩
        replace h := h.1 hb16
        refine Wl.guardF rfl rfl hb16 rfl ?_
        refine wZ rg (o_pickT rfl hb16 (v := .bool true) rfl (mvZ (.bool true) rfl ?_))
        refine Wl.guardF rfl rfl rfl rfl ?_
        refine Wl.guardF rfl rfl rfl rfl ?_
        refine Wl.guardF rfl rfl rfl rfl ?_
        refine Wl.guardF rfl rfl rfl rfl ?_
        refine Wl.guardF rfl rfl rfl rfl ?_
        refine wZ rg (o_pickT rfl rfl (v := .bool true) rfl (nZ ?_))
        exact ⟨(true, g1), (canon (fc vr (fc vr (fc vr (fc vr (fn))))) (sc rfl (sn))), h⟩
      replace h := h.1 hb15
      refine Wl.guardF rfl rfl hb15 rfl ?_
      refine Wl.guardF rfl rfl hb15 rfl ?_
      refine Wl.guardF rfl rfl hb15 rfl ?_
      refine Wl.guardF rfl rfl hb15 rfl ?_
      refine wZ rg (o_pickT rfl hb15 (v := .bool true) rfl (mvZ (.bool true) rfl ?_))
      refine Wl.guardF rfl rfl rfl rfl ?_
      refine Wl.guardF rfl rfl rfl rfl ?_
      refine wZ rg (o_pickT rfl rfl (v := .bool true) rfl (mvZ (.bool true) rfl ?_))
      refine Wl.guardF rfl rfl rfl rfl ?_
      refine Wl.guardF rfl rfl rfl rfl ?_
      refine Wl.guardF rfl rfl rfl rfl ?_
      refine Wl.guardF rfl rfl rfl rfl ?_
      refine Wl.guardF rfl rfl rfl rfl ?_
      refine wZ rg (o_pickT rfl rfl (v := .bool true) rfl (nZ ?_))
      exact ⟨(true, g1), (canon (fc vr (fc vr (fc vr (fc vr (fn))))) (sc rfl (sn))), h⟩
    replace h := h.1 hb14
    refine Wl.guardF rfl rfl hb14 rfl ?_
    refine Wl.guardF rfl rfl hb14 rfl ?_
    refine Wl.guardF rfl rfl hb14 rfl ?_
    refine Wl.guardF rfl rfl hb14 rfl ?_
    refine Wl.guardF rfl rfl hb14 rfl ?_
    refine wZ rg (o_pickT rfl hb14 (v := .bool true) rfl (mvZ (.bool true) rfl ?_))
    refine Wl.guardF rfl rfl rfl rfl ?_
    refine Wl.guardF rfl rfl rfl rfl ?_
    refine Wl.guardF rfl rfl rfl rfl ?_
    refine Wl.guardF rfl rfl rfl rfl ?_
    refine Wl.guardF rfl rfl rfl rfl ?_
    refine wZ rg (o_pickT rfl rfl (v := .bool true) rfl (mvZ (.bool true) rfl ?_))
    refine Wl.guardF rfl rfl rfl rfl ?_
    refine Wl.guardF rfl rfl rfl rfl ?_
    refine wZ rg (o_pickT rfl rfl (v := .bool true) rfl (mvZ (.bool true) rfl ?_))
    refine Wl.guardF rfl rfl rfl rfl ?_
    refine Wl.guardF rfl rfl rfl rfl ?_
    refine Wl.guardF rfl rfl rfl rfl ?_
    refine Wl.guardF rfl rfl rfl rfl ?_
    refine Wl.guardF rfl rfl rfl rfl ?_
    refine wZ rg (o_pickT rfl rfl (v := .bool true) rfl (nZ ?_))
    exact ⟨(true, g1), (canon (fc vr (fc vr (fc vr (fc vr (fn))))) (sc rfl (sn))), h⟩
  replace h := h.1 hb13
  refine Wl.guardF rfl rfl hb13 rfl ?_
  refine Wl.guardF rfl rfl hb13 rfl ?_
  refine wZ rg (o_pickT rfl hb13 (v := .bool true) rfl (mvZ (.bool true) rfl ?_))
  refine Wl.guardF rfl rfl rfl rfl ?_
  refine Wl.guardF rfl rfl rfl rfl ?_
  refine Wl.guardF rfl rfl rfl rfl ?_
  refine Wl.guardF rfl rfl rfl rfl ?_
  refine Wl.guardF rfl rfl rfl rfl ?_
  refine Wl.guardF rfl rfl rfl rfl ?_
  refine wZ rg (o_pickT rfl rfl (v := .bool true) rfl (mvZ (.bool true) rfl ?_))
  refine Wl.guardF rfl rfl rfl rfl ?_
  refine Wl.guardF rfl rfl rfl rfl ?_
  refine Wl.guardF rfl rfl rfl rfl ?_
  refine Wl.guardF rfl rfl rfl rfl ?_
  refine Wl.guardF rfl rfl rfl rfl ?_
  refine wZ rg (o_pickT rfl rfl (v := .bool true) rfl (mvZ (.bool true) rfl ?_))
  refine Wl.guardF rfl rfl rfl rfl ?_
  refine Wl.guardF rfl rfl rfl rfl ?_
  refine wZ rg (o_pickT rfl rfl (v := .bool true) rfl (mvZ (.bool true) rfl ?_))
  refine Wl.guardF rfl rfl rfl rfl ?_
  refine Wl.guardF rfl rfl rfl rfl ?_
  refine Wl.guardF rfl rfl rfl rfl ?_
  refine Wl.guardF rfl rfl rfl rfl ?_
  refine Wl.guardF rfl rfl rfl rfl ?_
  refine wZ rg (o_pickT rfl rfl (v := .bool true) rfl (nZ ?_))
  exact ⟨(true, g1), (canon (fc vr (fc vr (fc vr (fc vr (fn))))) (sc rfl (sn))), h⟩
end Go.Proofs.Ytiamkdpljeemkaa
