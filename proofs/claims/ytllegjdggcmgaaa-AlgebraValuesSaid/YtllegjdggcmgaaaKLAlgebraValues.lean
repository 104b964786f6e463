/- Walks of functions. Conditions: none. -/
import Derived.Test.YtllegjdggcmgaaaWa
import Derived.Test.YtllegjdggcmgaaaGgTy
import Derived.Test.YtllegjdggcmgaaaK3
import Derived.Test.YtllegjdggcmgaaaK9
import Derived.Test.YtllegjdggcmgaaaK11
/- Walks of functions. Conditions: none. -/
namespace Go.Proofs.Ytllegjdggcmgaaa
open Go.Gg
set_option maxRecDepth 100000
set_option maxHeartbeats 4000000 in
theorem law16_AlgebraValues_ctr {a : GDiagram} {b : GDiagram} {state : Int} {Q : Bool → Prop} {S : St} {R : AV → St → Prop} (h : law16_AlgebraValues_W a b state Q) (hQ : ∀ r1, Q r1 → R (AV.bool r1) S) :
    Ctr Try.prog 8 [eDiagram a, eDiagram b, AV.int .i64 state] S R := by
  unfold law16_AlgebraValues_W at h
  refine enterT Try.func8 rfl Try.ntmps8 Try.results8 (by kernel_rfl) (fun rg hrg => ?_)
  refine qZ (rZ (wZ rg (o_box (v := eDiagram a) rfl rfl (kk := 3) rfl (by decide) (fun g1 => (wZ rg (o_box (v := eDiagram b) rfl rfl (kk := 3) rfl (by decide) (fun g2 => (asZ (.bool false) rfl (nZ (qZ ?_))))))))))
  obtain ⟨J, h, hJ⟩ := h
  refine Vc.join' (σ := ((Bool) × (Nat × Nat))) (fun y => J y.1) (fun y => envOf [(2, .int .i64 state), (3, .ptr rg 3 y.2.1 0 0), (4, .ptr rg 4 y.2.2 0 0), (47, .bool y.1)]) (fun y => stL S rg [(3, .arr 3 [eDiagram a], y.2.1), (4, .arr 3 [eDiagram b], y.2.2)]) (fun y h => ?_) ?_
  · obtain ⟨x, ⟨g3, g4⟩⟩ := y
    replace h := hJ x h
    show Vc _ _ _ _ (envOf [(2, .int .i64 state), (3, .ptr rg 3 g3 0 0), (4, .ptr rg 4 g4 0 0), (47, .bool x)]) (stL S rg [(3, .arr 3 [eDiagram a], g3), (4, .arr 3 [eDiagram b], g4)])
    refine Vc.cond' rfl (fun hb => ?_) (fun hb => ?_)
    · replace h := h.1 hb
      refine qZ (rZ (wZ rg (o_call (us := []) rfl (vn) (law16_awake_ctr h fun r h => (asZ (.bool r) rfl (nZ ?_))))))
      refine Vc.ret' ?_
      refine res_tmp (v := .bool r) rfl (res_nil ?_)
      show Gives _ (.bool r) _
      exact gives_out hrg (VW.refl _) (hQ _ h)
    replace h := h.2 hb
    refine Vc.skip' ?_
    refine qZ (rZ (wZ rg (o_loadBA (atL (k := 3) rfl) sz25 (by decide) ag25 rfl rfl (v := eDiagram a) rfl (mvZ (.int .i64 state) rfl (wZ rg (o_call (us := [eDiagram a, AV.int .i64 state]) rfl (vl' vr (vl' vr (vn))) (diagram_Value_ctr h fun r1 r2 h => (mvZ (.tuple [.bool r1, eErr 83 r2]) rfl (wZ rg (o_extract (v := .bool r1) rfl rfl rfl (wZ rg (o_extract (v := eErr 83 r2) rfl rfl rfl ?_))))))))))))
    refine asZ (.bool r1) rfl (asZ (eErr 83 r2) rfl (nZ (qZ (rZ (wZ rg (o_loadBA (atL (k := 4) rfl) sz25 (by decide) ag25 rfl rfl (v := eDiagram b) rfl (mvZ (.int .i64 state) rfl (wZ rg (o_call (us := [eDiagram b, AV.int .i64 state]) rfl (vl' vr (vl' vr (vn))) (diagram_Value_ctr h fun r3 r4 h => (mvZ (.tuple [.bool r3, eErr 83 r4]) rfl (wZ rg (o_extract (v := .bool r3) rfl rfl rfl ?_)))))))))))))
    refine wZ rg (o_extract (v := eErr 83 r4) rfl rfl rfl (asZ (.bool r3) rfl (asZ (eErr 83 r4) rfl (nZ (qZ (rZ (wZ rg (o_loadBA (atL (k := 3) rfl) sz25 (by decide) ag25 rfl rfl (v := eDiagram a) rfl (wZ rg (o_loadBA (atL (k := 4) rfl) sz25 (by decide) ag25 rfl rfl (v := eDiagram b) rfl (wZ rg (o_call (us := [eDiagram a, eDiagram b]) rfl (vl' vr (vl' vr (vn))) (algebra_And_ctr h fun r5 r6 h => ?_)))))))))))))
    refine mvZ (.tuple [eDiagram r5, eErr 83 r6]) rfl (wZ rg (o_extract (v := eDiagram r5) rfl rfl rfl (wZ rg (o_extract (v := eErr 83 r6) rfl rfl rfl (wZ rg (o_alloc zav25 ok25 (kk := 3) rfl (fun g5 => (wZ rg (o_storeB (atL (k := 11) rfl) sz25 (by decide) rfl (w := eDiagram r5) rfl rfl rfl (v := eDiagram r5) rfl setL (asZ (eErr 83 r6) rfl (nZ (qZ (rZ ?_)))))))))))))
    refine wZ rg (o_loadBA (atL (k := 3) rfl) sz25 (by decide) ag25 rfl rfl (v := eDiagram a) rfl (wZ rg (o_loadBA (atL (k := 4) rfl) sz25 (by decide) ag25 rfl rfl (v := eDiagram b) rfl (wZ rg (o_call (us := [eDiagram a, eDiagram b]) rfl (vl' vr (vl' vr (vn))) (algebra_Or_ctr h fun r7 r8 h => (mvZ (.tuple [eDiagram r7, eErr 83 r8]) rfl (wZ rg (o_extract (v := eDiagram r7) rfl rfl rfl ?_)))))))))
    refine wZ rg (o_extract (v := eErr 83 r8) rfl rfl rfl (wZ rg (o_alloc zav25 ok25 (kk := 3) rfl (fun g6 => (wZ rg (o_storeB (atL (k := 13) rfl) sz25 (by decide) rfl (w := eDiagram r7) rfl rfl rfl (v := eDiagram r7) rfl setL (asZ (eErr 83 r8) rfl (nZ (qZ (rZ (wZ rg (o_loadBA (atL (k := 3) rfl) sz25 (by decide) ag25 rfl rfl (v := eDiagram a) rfl ?_))))))))))))
    refine wZ rg (o_loadBA (atL (k := 4) rfl) sz25 (by decide) ag25 rfl rfl (v := eDiagram b) rfl (wZ rg (o_call (us := [eDiagram a, eDiagram b]) rfl (vl' vr (vl' vr (vn))) (algebra_Xor_ctr h fun r9 r10 h => (mvZ (.tuple [eDiagram r9, eErr 83 r10]) rfl (wZ rg (o_extract (v := eDiagram r9) rfl rfl rfl (wZ rg (o_extract (v := eErr 83 r10) rfl rfl rfl ?_)))))))))
    refine wZ rg (o_alloc zav25 ok25 (kk := 3) rfl (fun g7 => (wZ rg (o_storeB (atL (k := 15) rfl) sz25 (by decide) rfl (w := eDiagram r9) rfl rfl rfl (v := eDiagram r9) rfl setL (asZ (eErr 83 r10) rfl (nZ (qZ (rZ (wZ rg (o_loadBA (atL (k := 3) rfl) sz25 (by decide) ag25 rfl rfl (v := eDiagram a) rfl (wZ rg (o_call (us := [eDiagram a]) rfl (vl' vr (vn)) (algebra_Not_ctr h fun r11 r12 h => ?_)))))))))))))
    refine mvZ (.tuple [eDiagram r11, eErr 83 r12]) rfl (wZ rg (o_extract (v := eDiagram r11) rfl rfl rfl (wZ rg (o_extract (v := eErr 83 r12) rfl rfl rfl (wZ rg (o_alloc zav25 ok25 (kk := 3) rfl (fun g8 => (wZ rg (o_storeB (atL (k := 17) rfl) sz25 (by decide) rfl (w := eDiagram r11) rfl rfl rfl (v := eDiagram r11) rfl setL (asZ (eErr 83 r12) rfl (nZ (qZ (qZ (rZ (mvZ (eErr 83 r2) rfl ?_)))))))))))))))
    refine wZ rg (o_isnon td29 (E := 83) rfl rfl rfl (mvZ (.bool (Option.isSome r2)) rfl ?_))
    refine Wl.guard rfl rfl (fun hb1 => ?_) (fun hb1 => ?_)
    · replace h := h.2 hb1
      refine mvZ (eErr 83 r4) rfl ?_
      refine Wl.guardT rfl rfl hb1 ?_
      refine wZ rg (o_isnon td29 (E := 83) rfl rfl rfl (wZ rg (o_pickF rfl hb1 (v := .bool (Option.isSome r4)) rfl (mvZ (.bool (Option.isSome r4)) rfl ?_))))
      refine Wl.guard rfl rfl (fun hb2 => ?_) (fun hb2 => ?_)
      · replace h := h.2 hb2
        refine mvZ (eErr 83 r6) rfl ?_
        refine Wl.guardT rfl rfl hb2 ?_
        refine wZ rg (o_isnon td29 (E := 83) rfl rfl rfl (wZ rg (o_pickF rfl hb2 (v := .bool (Option.isSome r6)) rfl (mvZ (.bool (Option.isSome r6)) rfl ?_))))
        refine Wl.guard rfl rfl (fun hb3 => ?_) (fun hb3 => ?_)
        · replace h := h.2 hb3
          refine mvZ (eErr 83 r8) rfl ?_
          refine Wl.guardT rfl rfl hb3 ?_
          refine wZ rg (o_isnon td29 (E := 83) rfl rfl rfl (wZ rg (o_pickF rfl hb3 (v := .bool (Option.isSome r8)) rfl (mvZ (.bool (Option.isSome r8)) rfl ?_))))
          refine Wl.guard rfl rfl (fun hb4 => ?_) (fun hb4 => ?_)
          · replace h := h.2 hb4
            refine mvZ (eErr 83 r10) rfl ?_
            refine Wl.guardT rfl rfl hb4 ?_
            refine wZ rg (o_isnon td29 (E := 83) rfl rfl rfl (wZ rg (o_pickF rfl hb4 (v := .bool (Option.isSome r10)) rfl (mvZ (.bool (Option.isSome r10)) rfl ?_))))
            refine Wl.guard rfl rfl (fun hb5 => ?_) (fun hb5 => ?_)
            · replace h := h.2 hb5
              refine mvZ (eErr 83 r12) rfl ?_
              refine Wl.guardT rfl rfl hb5 ?_
              refine wZ rg (o_isnon td29 (E := 83) rfl rfl rfl (wZ rg (o_pickF rfl hb5 (v := .bool (Option.isSome r12)) rfl (nZ ?_))))
              refine Vc.cond' rfl (fun hb6 => ?_) (fun hb6 => ?_)
              · replace h := h.1 hb6
                refine qZ (rZ (asZ (.bool false) rfl (nZ ?_)))
                refine Vc.ret' ?_
                refine res_tmp (v := .bool false) rfl (res_nil ?_)
                show Gives _ (.bool false) _
                exact gives_out hrg (VW.refl _) (hQ _ h)
              replace h := h.2 hb6
              refine Vc.skip' ?_
              refine qZ (rZ (wZ rg (o_loadBA (atL (k := 11) rfl) sz25 (by decide) ag25 rfl rfl (v := eDiagram r5) rfl (mvZ (.int .i64 state) rfl (wZ rg (o_call (us := [eDiagram r5, AV.int .i64 state]) rfl (vl' vr (vl' vr (vn))) (diagram_Value_ctr h fun r13 r14 h => (mvZ (.tuple [.bool r13, eErr 83 r14]) rfl (wZ rg (o_extract (v := .bool r13) rfl rfl rfl (wZ rg (o_extract (v := eErr 83 r14) rfl rfl rfl ?_))))))))))))
              refine asZ (.bool r13) rfl (asZ (eErr 83 r14) rfl (nZ (qZ (rZ (wZ rg (o_loadBA (atL (k := 13) rfl) sz25 (by decide) ag25 rfl rfl (v := eDiagram r7) rfl (mvZ (.int .i64 state) rfl (wZ rg (o_call (us := [eDiagram r7, AV.int .i64 state]) rfl (vl' vr (vl' vr (vn))) (diagram_Value_ctr h fun r15 r16 h => (mvZ (.tuple [.bool r15, eErr 83 r16]) rfl (wZ rg (o_extract (v := .bool r15) rfl rfl rfl ?_)))))))))))))
              refine wZ rg (o_extract (v := eErr 83 r16) rfl rfl rfl (asZ (.bool r15) rfl (asZ (eErr 83 r16) rfl (nZ (qZ (rZ (wZ rg (o_loadBA (atL (k := 15) rfl) sz25 (by decide) ag25 rfl rfl (v := eDiagram r9) rfl (mvZ (.int .i64 state) rfl (wZ rg (o_call (us := [eDiagram r9, AV.int .i64 state]) rfl (vl' vr (vl' vr (vn))) (diagram_Value_ctr h fun r17 r18 h => (mvZ (.tuple [.bool r17, eErr 83 r18]) rfl ?_)))))))))))))
              refine wZ rg (o_extract (v := .bool r17) rfl rfl rfl (wZ rg (o_extract (v := eErr 83 r18) rfl rfl rfl (asZ (.bool r17) rfl (asZ (eErr 83 r18) rfl (nZ (qZ (rZ (wZ rg (o_loadBA (atL (k := 17) rfl) sz25 (by decide) ag25 rfl rfl (v := eDiagram r11) rfl (mvZ (.int .i64 state) rfl ?_)))))))))))
              refine wZ rg (o_call (us := [eDiagram r11, AV.int .i64 state]) rfl (vl' vr (vl' vr (vn))) (diagram_Value_ctr h fun r19 r20 h => (mvZ (.tuple [.bool r19, eErr 83 r20]) rfl (wZ rg (o_extract (v := .bool r19) rfl rfl rfl (wZ rg (o_extract (v := eErr 83 r20) rfl rfl rfl (asZ (.bool r19) rfl (asZ (eErr 83 r20) rfl (nZ (qZ (rZ (mvZ (eErr 83 r14) rfl (wZ rg (o_isnil td29 (E := 83) rfl rfl rfl ?_)))))))))))))))
              refine mvZ (.bool (Option.isNone r14)) rfl ?_
              refine Wl.guard rfl rfl (fun hb7 => ?_) (fun hb7 => ?_)
              · replace h := h.1 hb7
                refine mvZ (eErr 83 r16) rfl ?_
                refine Wl.guardT rfl rfl hb7 ?_
                refine wZ rg (o_isnil td29 (E := 83) rfl rfl rfl (wZ rg (o_pickT rfl hb7 (v := .bool (Option.isNone r16)) rfl (mvZ (.bool (Option.isNone r16)) rfl ?_))))
                refine Wl.guard rfl rfl (fun hb8 => ?_) (fun hb8 => ?_)
                · replace h := h.1 hb8
                  refine mvZ (eErr 83 r18) rfl ?_
                  refine Wl.guardT rfl rfl hb8 ?_
                  refine wZ rg (o_isnil td29 (E := 83) rfl rfl rfl (wZ rg (o_pickT rfl hb8 (v := .bool (Option.isNone r18)) rfl (mvZ (.bool (Option.isNone r18)) rfl ?_))))
                  refine Wl.guard rfl rfl (fun hb9 => ?_) (fun hb9 => ?_)
                  · replace h := h.1 hb9
                    refine mvZ (eErr 83 r20) rfl ?_
                    refine Wl.guardT rfl rfl hb9 ?_
                    refine wZ rg (o_isnil td29 (E := 83) rfl rfl rfl (wZ rg (o_pickT rfl hb9 (v := .bool (Option.isNone r20)) rfl (mvZ (.bool (Option.isNone r20)) rfl ?_))))
                    refine Wl.guard rfl rfl (fun hb10 => ?_) (fun hb10 => ?_)
                    · replace h := h.1 hb10
                      refine mvZ (.bool r13) rfl ?_
                      refine Wl.guardT rfl rfl hb10 ?_
                      refine mvZ (.bool r1) rfl ?_
                      refine Wl.guardT rfl rfl hb10 ?_
                      refine mvZ (.bool r1) rfl ?_
                      refine Wl.guard rfl rfl (fun hb11 => ?_) (fun hb11 => ?_)
                      · replace h := h.1 hb11
                        refine mvZ (.bool r3) rfl ?_
                        refine Wl.guardT rfl rfl hb10 ?_
                        refine wZ rg (o_pickT rfl hb11 (v := .bool r3) rfl ?_)
                        refine Wl.guardT rfl rfl hb10 ?_
                        refine wZ rg (o_eqlB td4 rfl rfl (wZ rg (o_pickT rfl hb10 (v := .bool (r13 == r3)) rfl (mvZ (.bool (r13 == r3)) rfl ?_))))
                        refine Wl.guard rfl rfl (fun hb12 => ?_) (fun hb12 => ?_)
                        · replace h := h.1 hb12
                          refine mvZ (.bool r15) rfl ?_
                          refine Wl.guardT rfl rfl hb12 ?_
                          refine mvZ (.bool r1) rfl ?_
                          refine Wl.guardT rfl rfl hb12 ?_
                          refine mvZ (.bool r1) rfl ?_
                          refine Wl.guardF rfl rfl hb11 rfl ?_
                          refine Wl.guardT rfl rfl hb12 ?_
                          refine wZ rg (o_pickT rfl hb11 (v := .bool true) rfl ?_)
                          refine Wl.guardT rfl rfl hb12 ?_
                          refine wZ rg (o_eqlB td4 rfl rfl (wZ rg (o_pickT rfl hb12 (v := .bool (r15 == true)) rfl (mvZ (.bool (r15 == true)) rfl ?_))))
                          refine Wl.guard rfl rfl (fun hb13 => ?_) (fun hb13 => ?_)
                          · replace h := h.1 hb13
                            refine mvZ (.bool r17) rfl ?_
                            refine Wl.guardT rfl rfl hb13 ?_
                            refine mvZ (.bool r1) rfl ?_
                            refine Wl.guardT rfl rfl hb13 ?_
                            refine mvZ (.bool r3) rfl ?_
                            refine Wl.guardT rfl rfl hb13 ?_
                            refine wZ rg (o_neqB td4 rfl rfl ?_)
                            refine Wl.guardT rfl rfl hb13 ?_
                            refine wZ rg (o_eqlB td4 rfl rfl (wZ rg (o_pickT rfl hb13 (v := .bool (r17 == (r1 != r3))) rfl (mvZ (.bool (r17 == (r1 != r3))) rfl ?_))))
                            refine Wl.guard rfl rfl (fun hb14 => ?_) (fun hb14 => ?_)
                            · replace h := h.1 hb14
                              refine mvZ (.bool r19) rfl ?_
                              refine Wl.guardT rfl rfl hb14 ?_
                              refine mvZ (.bool r1) rfl ?_
                              refine Wl.guardT rfl rfl hb14 ?_
                              refine wZ rg (o_not rfl ?_)
                              refine Wl.guardT rfl rfl hb14 ?_
                              refine wZ rg (o_eqlB td4 rfl rfl (wZ rg (o_pickT rfl hb14 (v := .bool (r19 == (!r1))) rfl (asZ (.bool (r19 == (!r1))) rfl (nZ ?_)))))
                              refine Vc.ret' ?_
                              refine res_tmp (v := .bool (r19 == (!r1))) rfl (res_nil ?_)
                              show Gives _ (.bool (r19 == (!r1))) _
                              exact gives_out hrg (VW.refl _) (hQ _ h)
                            replace h := h.2 hb14
                            refine Wl.guardF rfl rfl hb14 rfl ?_
                            refine Wl.guardF rfl rfl hb14 rfl ?_
                            refine Wl.guardF rfl rfl hb14 rfl ?_
                            refine wZ rg (o_pickF rfl hb14 (v := .bool false) rfl (asZ (.bool false) rfl (nZ ?_)))
                            refine Vc.ret' ?_
                            refine res_tmp (v := .bool false) rfl (res_nil ?_)
                            show Gives _ (.bool false) _
                            exact gives_out hrg (VW.refl _) (hQ _ h)
                          replace h := h.2 hb13
                          refine Wl.guardF rfl rfl hb13 rfl ?_
                          refine Wl.guardF rfl rfl hb13 rfl ?_
                          refine Wl.guardF rfl rfl hb13 rfl ?_
                          refine Wl.guardF rfl rfl hb13 rfl ?_
                          refine wZ rg (o_pickF rfl hb13 (v := .bool false) rfl (mvZ (.bool false) rfl ?_))
                          refine Wl.guardF rfl rfl rfl rfl ?_
                          refine Wl.guardF rfl rfl rfl rfl ?_
                          refine Wl.guardF rfl rfl rfl rfl ?_
                          refine Wl.guardF rfl rfl rfl rfl ?_
                          refine wZ rg (o_pickF rfl rfl (v := .bool false) rfl (asZ (.bool false) rfl (nZ ?_)))
                          refine Vc.ret' ?_
                          refine res_tmp (v := .bool false) rfl (res_nil ?_)
                          show Gives _ (.bool false) _
                          exact gives_out hrg (VW.refl _) (hQ _ h)
                        replace h := h.2 hb12
                        refine Wl.guardF rfl rfl hb12 rfl ?_
                        refine Wl.guardF rfl rfl hb12 rfl ?_
                        refine Wl.guardU rfl rfl ?_
                        refine Wl.guardF rfl rfl hb12 rfl ?_
                        refine Wl.guardF rfl rfl hb12 rfl ?_
                        refine wZ rg (o_pickF rfl hb12 (v := .bool false) rfl (mvZ (.bool false) rfl ?_))
                        refine Wl.guardF rfl rfl rfl rfl ?_
                        refine Wl.guardF rfl rfl rfl rfl ?_
                        refine Wl.guardF rfl rfl rfl rfl ?_
                        refine Wl.guardF rfl rfl rfl rfl ?_
                        refine Wl.guardF rfl rfl rfl rfl ?_
                        refine wZ rg (o_pickF rfl rfl (v := .bool false) rfl (mvZ (.bool false) rfl ?_))
                        refine Wl.guardF rfl rfl rfl rfl ?_
                        refine Wl.guardF rfl rfl rfl rfl ?_
                        refine Wl.guardF rfl rfl rfl rfl ?_
                        refine Wl.guardF rfl rfl rfl rfl ?_
                        refine wZ rg (o_pickF rfl rfl (v := .bool false) rfl (asZ (.bool false) rfl (nZ ?_)))
                        refine Vc.ret' ?_
                        refine res_tmp (v := .bool false) rfl (res_nil ?_)
                        show Gives _ (.bool false) _
                        exact gives_out hrg (VW.refl _) (hQ _ h)
                      replace h := h.2 hb11
                      refine Wl.guardT rfl rfl hb10 ?_
                      refine wZ rg (o_pickF rfl hb11 (v := .bool false) rfl ?_)
                      refine Wl.guardT rfl rfl hb10 ?_
                      refine wZ rg (o_eqlB td4 rfl rfl (wZ rg (o_pickT rfl hb10 (v := .bool (r13 == false)) rfl (mvZ (.bool (r13 == false)) rfl ?_))))
                      refine Wl.guard rfl rfl (fun hb15 => ?_) (fun hb15 => ?_)
                      · replace h := h.1 hb15
                        refine mvZ (.bool r15) rfl ?_
                        refine Wl.guardT rfl rfl hb15 ?_
                        refine mvZ (.bool r1) rfl ?_
                        refine Wl.guardT rfl rfl hb15 ?_
                        refine mvZ (.bool r1) rfl ?_
                        refine Wl.guardT rfl rfl hb11 ?_
                        refine mvZ (.bool r3) rfl ?_
                        refine Wl.guardT rfl rfl hb15 ?_
                        refine wZ rg (o_pickF rfl hb11 (v := .bool r3) rfl ?_)
                        refine Wl.guardT rfl rfl hb15 ?_
                        refine wZ rg (o_eqlB td4 rfl rfl (wZ rg (o_pickT rfl hb15 (v := .bool (r15 == r3)) rfl (mvZ (.bool (r15 == r3)) rfl ?_))))
                        refine Wl.guard rfl rfl (fun hb16 => ?_) (fun hb16 => ?_)
                        · replace h := h.1 hb16
                          refine mvZ (.bool r17) rfl ?_
                          refine Wl.guardT rfl rfl hb16 ?_
                          refine mvZ (.bool r1) rfl ?_
                          refine Wl.guardT rfl rfl hb16 ?_
                          refine mvZ (.bool r3) rfl ?_
                          refine Wl.guardT rfl rfl hb16 ?_
                          refine wZ rg (o_neqB td4 rfl rfl ?_)
                          refine Wl.guardT rfl rfl hb16 ?_
                          refine wZ rg (o_eqlB td4 rfl rfl (wZ rg (o_pickT rfl hb16 (v := .bool (r17 == (r1 != r3))) rfl (mvZ (.bool (r17 == (r1 != r3))) rfl ?_))))
                          refine Wl.guard rfl rfl (fun hb17 => ?_) (fun hb17 => ?_)
                          · replace h := h.1 hb17
                            refine mvZ (.bool r19) rfl ?_
                            refine Wl.guardT rfl rfl hb17 ?_
                            refine mvZ (.bool r1) rfl ?_
                            refine Wl.guardT rfl rfl hb17 ?_
                            refine wZ rg (o_not rfl ?_)
                            refine Wl.guardT rfl rfl hb17 ?_
                            refine wZ rg (o_eqlB td4 rfl rfl (wZ rg (o_pickT rfl hb17 (v := .bool (r19 == (!r1))) rfl (asZ (.bool (r19 == (!r1))) rfl (nZ ?_)))))
                            refine Vc.ret' ?_
                            refine res_tmp (v := .bool (r19 == (!r1))) rfl (res_nil ?_)
                            show Gives _ (.bool (r19 == (!r1))) _
                            exact gives_out hrg (VW.refl _) (hQ _ h)
                          replace h := h.2 hb17
                          refine Wl.guardF rfl rfl hb17 rfl ?_
                          refine Wl.guardF rfl rfl hb17 rfl ?_
                          refine Wl.guardF rfl rfl hb17 rfl ?_
                          refine wZ rg (o_pickF rfl hb17 (v := .bool false) rfl (asZ (.bool false) rfl (nZ ?_)))
                          refine Vc.ret' ?_
                          refine res_tmp (v := .bool false) rfl (res_nil ?_)
                          show Gives _ (.bool false) _
                          exact gives_out hrg (VW.refl _) (hQ _ h)
                        replace h := h.2 hb16
                        refine Wl.guardF rfl rfl hb16 rfl ?_
                        refine Wl.guardF rfl rfl hb16 rfl ?_
                        refine Wl.guardF rfl rfl hb16 rfl ?_
                        refine Wl.guardF rfl rfl hb16 rfl ?_
                        refine wZ rg (o_pickF rfl hb16 (v := .bool false) rfl (mvZ (.bool false) rfl ?_))
                        refine Wl.guardF rfl rfl rfl rfl ?_
                        refine Wl.guardF rfl rfl rfl rfl ?_
                        refine Wl.guardF rfl rfl rfl rfl ?_
                        refine Wl.guardF rfl rfl rfl rfl ?_
                        refine wZ rg (o_pickF rfl rfl (v := .bool false) rfl (asZ (.bool false) rfl (nZ ?_)))
                        refine Vc.ret' ?_
                        refine res_tmp (v := .bool false) rfl (res_nil ?_)
                        show Gives _ (.bool false) _
                        exact gives_out hrg (VW.refl _) (hQ _ h)
                      replace h := h.2 hb15
                      refine Wl.guardF rfl rfl hb15 rfl ?_
                      refine Wl.guardF rfl rfl hb15 rfl ?_
                      refine Wl.guardU rfl rfl ?_
                      refine Wl.guardF rfl rfl hb15 rfl ?_
                      refine Wl.guardF rfl rfl hb15 rfl ?_
                      refine wZ rg (o_pickF rfl hb15 (v := .bool false) rfl (mvZ (.bool false) rfl ?_))
                      refine Wl.guardF rfl rfl rfl rfl ?_
                      refine Wl.guardF rfl rfl rfl rfl ?_
                      refine Wl.guardF rfl rfl rfl rfl ?_
                      refine Wl.guardF rfl rfl rfl rfl ?_
                      refine Wl.guardF rfl rfl rfl rfl ?_
                      refine wZ rg (o_pickF rfl rfl (v := .bool false) rfl (mvZ (.bool false) rfl ?_))
                      refine Wl.guardF rfl rfl rfl rfl ?_
                      refine Wl.guardF rfl rfl rfl rfl ?_
                      refine Wl.guardF rfl rfl rfl rfl ?_
                      refine Wl.guardF rfl rfl rfl rfl ?_
                      refine wZ rg (o_pickF rfl rfl (v := .bool false) rfl (asZ (.bool false) rfl (nZ ?_)))
                      refine Vc.ret' ?_
                      refine res_tmp (v := .bool false) rfl (res_nil ?_)
                      show Gives _ (.bool false) _
                      exact gives_out hrg (VW.refl _) (hQ _ h)
                    replace h := h.2 hb10
                    refine Wl.guardF rfl rfl hb10 rfl ?_
                    refine Wl.guardF rfl rfl hb10 rfl ?_
                    refine Wl.guardU rfl rfl ?_
                    refine Wl.guardF rfl rfl hb10 rfl ?_
                    refine Wl.guardF rfl rfl hb10 rfl ?_
                    refine wZ rg (o_pickF rfl hb10 (v := .bool false) rfl (mvZ (.bool false) rfl ?_))
                    refine Wl.guardF rfl rfl rfl rfl ?_
                    refine Wl.guardF rfl rfl rfl rfl ?_
                    refine Wl.guardF rfl rfl rfl rfl ?_
                    refine Wl.guardU rfl rfl ?_
                    refine Wl.guardF rfl rfl rfl rfl ?_
                    refine Wl.guardF rfl rfl rfl rfl ?_
                    refine wZ rg (o_pickF rfl rfl (v := .bool false) rfl (mvZ (.bool false) rfl ?_))
                    refine Wl.guardF rfl rfl rfl rfl ?_
                    refine Wl.guardF rfl rfl rfl rfl ?_
                    refine Wl.guardF rfl rfl rfl rfl ?_
                    refine Wl.guardF rfl rfl rfl rfl ?_
                    refine Wl.guardF rfl rfl rfl rfl ?_
                    refine wZ rg (o_pickF rfl rfl (v := .bool false) rfl (mvZ (.bool false) rfl ?_))
                    refine Wl.guardF rfl rfl rfl rfl ?_
                    refine Wl.guardF rfl rfl rfl rfl ?_
                    refine Wl.guardF rfl rfl rfl rfl ?_
                    refine Wl.guardF rfl rfl rfl rfl ?_
                    refine wZ rg (o_pickF rfl rfl (v := .bool false) rfl (asZ (.bool false) rfl (nZ ?_)))
                    refine Vc.ret' ?_
                    refine res_tmp (v := .bool false) rfl (res_nil ?_)
                    show Gives _ (.bool false) _
                    exact gives_out hrg (VW.refl _) (hQ _ h)
                  replace h := h.2 hb9
                  refine Wl.guardF rfl rfl hb9 rfl ?_
                  refine wZ rg (o_pickF rfl hb9 (v := .bool false) rfl (mvZ (.bool false) rfl ?_))
                  refine Wl.guardF rfl rfl rfl rfl ?_
                  refine Wl.guardF rfl rfl rfl rfl ?_
                  refine Wl.guardF rfl rfl rfl rfl ?_
                  refine Wl.guardU rfl rfl ?_
                  refine Wl.guardF rfl rfl rfl rfl ?_
                  refine Wl.guardF rfl rfl rfl rfl ?_
                  refine wZ rg (o_pickF rfl rfl (v := .bool false) rfl (mvZ (.bool false) rfl ?_))
                  refine Wl.guardF rfl rfl rfl rfl ?_
                  refine Wl.guardF rfl rfl rfl rfl ?_
                  refine Wl.guardF rfl rfl rfl rfl ?_
                  refine Wl.guardU rfl rfl ?_
                  refine Wl.guardF rfl rfl rfl rfl ?_
                  refine Wl.guardF rfl rfl rfl rfl ?_
                  refine wZ rg (o_pickF rfl rfl (v := .bool false) rfl (mvZ (.bool false) rfl ?_))
                  refine Wl.guardF rfl rfl rfl rfl ?_
                  refine Wl.guardF rfl rfl rfl rfl ?_
                  refine Wl.guardF rfl rfl rfl rfl ?_
                  refine Wl.guardF rfl rfl rfl rfl ?_
                  refine Wl.guardF rfl rfl rfl rfl ?_
                  refine wZ rg (o_pickF rfl rfl (v := .bool false) rfl (mvZ (.bool false) rfl ?_))
                  refine Wl.guardF rfl rfl rfl rfl ?_
                  refine Wl.guardF rfl rfl rfl rfl ?_
                  refine Wl.guardF rfl rfl rfl rfl ?_
                  refine Wl.guardF rfl rfl rfl rfl ?_
                  refine wZ rg (o_pickF rfl rfl (v := .bool false) rfl (asZ (.bool false) rfl (nZ ?_)))
                  refine Vc.ret' ?_
                  refine res_tmp (v := .bool false) rfl (res_nil ?_)
                  show Gives _ (.bool false) _
                  exact gives_out hrg (VW.refl _) (hQ _ h)
                replace h := h.2 hb8
                refine Wl.guardF rfl rfl hb8 rfl ?_
                refine wZ rg (o_pickF rfl hb8 (v := .bool false) rfl (mvZ (.bool false) rfl ?_))
                refine Wl.guardF rfl rfl rfl rfl ?_
                refine Wl.guardF rfl rfl rfl rfl ?_
                refine wZ rg (o_pickF rfl rfl (v := .bool false) rfl (mvZ (.bool false) rfl ?_))
                refine Wl.guardF rfl rfl rfl rfl ?_
                refine Wl.guardF rfl rfl rfl rfl ?_
                refine Wl.guardF rfl rfl rfl rfl ?_
                refine Wl.guardU rfl rfl ?_
                refine Wl.guardF rfl rfl rfl rfl ?_
                refine Wl.guardF rfl rfl rfl rfl ?_
                refine wZ rg (o_pickF rfl rfl (v := .bool false) rfl (mvZ (.bool false) rfl ?_))
                refine Wl.guardF rfl rfl rfl rfl ?_
                refine Wl.guardF rfl rfl rfl rfl ?_
                refine Wl.guardF rfl rfl rfl rfl ?_
                refine Wl.guardU rfl rfl ?_
                refine Wl.guardF rfl rfl rfl rfl ?_
                refine Wl.guardF rfl rfl rfl rfl ?_
                refine wZ rg (o_pickF rfl rfl (v := .bool false) rfl (mvZ (.bool false) rfl ?_))
                refine Wl.guardF rfl rfl rfl rfl ?_
                refine Wl.guardF rfl rfl rfl rfl ?_
                refine Wl.guardF rfl rfl rfl rfl ?_
                refine Wl.guardF rfl rfl rfl rfl ?_
                refine Wl.guardF rfl rfl rfl rfl ?_
                refine wZ rg (o_pickF rfl rfl (v := .bool false) rfl (mvZ (.bool false) rfl ?_))
                refine Wl.guardF rfl rfl rfl rfl ?_
                refine Wl.guardF rfl rfl rfl rfl ?_
                refine Wl.guardF rfl rfl rfl rfl ?_
                refine Wl.guardF rfl rfl rfl rfl ?_
                refine wZ rg (o_pickF rfl rfl (v := .bool false) rfl (asZ (.bool false) rfl (nZ ?_)))
                refine Vc.ret' ?_
                refine res_tmp (v := .bool false) rfl (res_nil ?_)
                show Gives _ (.bool false) _
                exact gives_out hrg (VW.refl _) (hQ _ h)
              replace h := h.2 hb7
              refine Wl.guardF rfl rfl hb7 rfl ?_
              refine wZ rg (o_pickF rfl hb7 (v := .bool false) rfl (mvZ (.bool false) rfl ?_))
              refine Wl.guardF rfl rfl rfl rfl ?_
              refine Wl.guardF rfl rfl rfl rfl ?_
              refine wZ rg (o_pickF rfl rfl (v := .bool false) rfl (mvZ (.bool false) rfl ?_))
              refine Wl.guardF rfl rfl rfl rfl ?_
              refine Wl.guardF rfl rfl rfl rfl ?_
              refine wZ rg (o_pickF rfl rfl (v := .bool false) rfl (mvZ (.bool false) rfl ?_))
              refine Wl.guardF rfl rfl rfl rfl ?_
              refine Wl.guardF rfl rfl rfl rfl ?_
              refine Wl.guardF rfl rfl rfl rfl ?_
              refine Wl.guardU rfl rfl ?_
              refine Wl.guardF rfl rfl rfl rfl ?_
              refine Wl.guardF rfl rfl rfl rfl ?_
              refine wZ rg (o_pickF rfl rfl (v := .bool false) rfl (mvZ (.bool false) rfl ?_))
              refine Wl.guardF rfl rfl rfl rfl ?_
              refine Wl.guardF rfl rfl rfl rfl ?_
              refine Wl.guardF rfl rfl rfl rfl ?_
              refine Wl.guardU rfl rfl ?_
              refine Wl.guardF rfl rfl rfl rfl ?_
              refine Wl.guardF rfl rfl rfl rfl ?_
              refine wZ rg (o_pickF rfl rfl (v := .bool false) rfl (mvZ (.bool false) rfl ?_))
              refine Wl.guardF rfl rfl rfl rfl ?_
              refine Wl.guardF rfl rfl rfl rfl ?_
              refine Wl.guardF rfl rfl rfl rfl ?_
              refine Wl.guardF rfl rfl rfl rfl ?_
              refine Wl.guardF rfl rfl rfl rfl ?_
              refine wZ rg (o_pickF rfl rfl (v := .bool false) rfl (mvZ (.bool false) rfl ?_))
              refine Wl.guardF rfl rfl rfl rfl ?_
              refine Wl.guardF rfl rfl rfl rfl ?_
              refine Wl.guardF rfl rfl rfl rfl ?_
              refine Wl.guardF rfl rfl rfl rfl ?_
              refine wZ rg (o_pickF rfl rfl (v := .bool false) rfl (asZ (.bool false) rfl (nZ ?_)))
              refine Vc.ret' ?_
              refine res_tmp (v := .bool false) rfl (res_nil ?_)
              show Gives _ (.bool false) _
              exact gives_out hrg (VW.refl _) (hQ _ h)
            replace h := h.1 hb5
            refine Wl.guardF rfl rfl hb5 rfl ?_
            refine wZ rg (o_pickT rfl hb5 (v := .bool true) rfl (nZ ?_))
            refine Vc.cond' rfl (fun _ => ?_) (fun hb => Bool.noConfusion hb)
            refine qZ (rZ (asZ (.bool false) rfl (nZ ?_)))
            refine Vc.ret' ?_
            refine res_tmp (v := .bool false) rfl (res_nil ?_)
            show Gives _ (.bool false) _
            exact gives_out hrg (VW.refl _) (hQ _ h)
          replace h := h.1 hb4
          refine Wl.guardF rfl rfl hb4 rfl ?_
          refine wZ rg (o_pickT rfl hb4 (v := .bool true) rfl (mvZ (.bool true) rfl ?_))
          refine Wl.guardF rfl rfl rfl rfl ?_
          refine Wl.guardF rfl rfl rfl rfl ?_
          refine wZ rg (o_pickT rfl rfl (v := .bool true) rfl (nZ ?_))
          refine Vc.cond' rfl (fun _ => ?_) (fun hb => Bool.noConfusion hb)
          refine qZ (rZ (asZ (.bool false) rfl (nZ ?_)))
          refine Vc.ret' ?_
          refine res_tmp (v := .bool false) rfl (res_nil ?_)
          show Gives _ (.bool false) _
          exact gives_out hrg (VW.refl _) (hQ _ h)
        replace h := h.1 hb3
        refine Wl.guardF rfl rfl hb3 rfl ?_
        refine wZ rg (o_pickT rfl hb3 (v := .bool true) rfl (mvZ (.bool true) rfl ?_))
        refine Wl.guardF rfl rfl rfl rfl ?_
        refine Wl.guardF rfl rfl rfl rfl ?_
        refine wZ rg (o_pickT rfl rfl (v := .bool true) rfl (mvZ (.bool true) rfl ?_))
        refine Wl.guardF rfl rfl rfl rfl ?_
        refine Wl.guardF rfl rfl rfl rfl ?_
        refine wZ rg (o_pickT rfl rfl (v := .bool true) rfl (nZ ?_))
        refine Vc.cond' rfl (fun _ => ?_) (fun hb => Bool.noConfusion hb)
        refine qZ (rZ (asZ (.bool false) rfl (nZ ?_)))
        refine Vc.ret' ?_
        refine res_tmp (v := .bool false) rfl (res_nil ?_)
        show Gives _ (.bool false) _
        exact gives_out hrg (VW.refl _) (hQ _ h)
      replace h := h.1 hb2
      refine Wl.guardF rfl rfl hb2 rfl ?_
      refine wZ rg (o_pickT rfl hb2 (v := .bool true) rfl (mvZ (.bool true) rfl ?_))
      refine Wl.guardF rfl rfl rfl rfl ?_
      refine Wl.guardF rfl rfl rfl rfl ?_
      refine wZ rg (o_pickT rfl rfl (v := .bool true) rfl (mvZ (.bool true) rfl ?_))
      refine Wl.guardF rfl rfl rfl rfl ?_
      refine Wl.guardF rfl rfl rfl rfl ?_
      refine wZ rg (o_pickT rfl rfl (v := .bool true) rfl (mvZ (.bool true) rfl ?_))
      refine Wl.guardF rfl rfl rfl rfl ?_
      refine Wl.guardF rfl rfl rfl rfl ?_
      refine wZ rg (o_pickT rfl rfl (v := .bool true) rfl (nZ ?_))
      refine Vc.cond' rfl (fun _ => ?_) (fun hb => Bool.noConfusion hb)
      refine qZ (rZ (asZ (.bool false) rfl (nZ ?_)))
      refine Vc.ret' ?_
      refine res_tmp (v := .bool false) rfl (res_nil ?_)
      show Gives _ (.bool false) _
      exact gives_out hrg (VW.refl _) (hQ _ h)
    replace h := h.1 hb1
    refine Wl.guardF rfl rfl hb1 rfl ?_
    refine wZ rg (o_pickT rfl hb1 (v := .bool true) rfl (mvZ (.bool true) rfl ?_))
    refine Wl.guardF rfl rfl rfl rfl ?_
    refine Wl.guardF rfl rfl rfl rfl ?_
    refine wZ rg (o_pickT rfl rfl (v := .bool true) rfl (mvZ (.bool true) rfl ?_))
    refine Wl.guardF rfl rfl rfl rfl ?_
    refine Wl.guardF rfl rfl rfl rfl ?_
    refine wZ rg (o_pickT rfl rfl (v := .bool true) rfl (mvZ (.bool true) rfl ?_))
    refine Wl.guardF rfl rfl rfl rfl ?_
    refine Wl.guardF rfl rfl rfl rfl ?_
    refine wZ rg (o_pickT rfl rfl (v := .bool true) rfl (mvZ (.bool true) rfl ?_))
    refine Wl.guardF rfl rfl rfl rfl ?_
    refine Wl.guardF rfl rfl rfl rfl ?_
    refine wZ rg (o_pickT rfl rfl (v := .bool true) rfl (nZ ?_))
    refine Vc.cond' rfl (fun _ => ?_) (fun hb => Bool.noConfusion hb)
    refine qZ (rZ (asZ (.bool false) rfl (nZ ?_)))
    refine Vc.ret' ?_
    refine res_tmp (v := .bool false) rfl (res_nil ?_)
    show Gives _ (.bool false) _
    exact gives_out hrg (VW.refl _) (hQ _ h)
  refine rZ ?_
  refine wZ rg (o_call (us := []) rfl (vn) (law16_awake_ctr h fun r21 h => (wZ rg (o_not rfl (mvZ (.bool (!r21)) rfl ?_)))))
  refine Wl.guard rfl rfl (fun hb18 => ?_) (fun hb18 => ?_)
  · replace h := h.2 hb18
    refine wZ rg (o_loadBA (atL (k := 3) rfl) sz25 (by decide) ag25 rfl rfl (v := eDiagram a) rfl ?_)
    refine Wl.guardT rfl rfl hb18 ?_
    refine wZ rg (o_loadBA (atL (k := 4) rfl) sz25 (by decide) ag25 rfl rfl (v := eDiagram b) rfl ?_)
    refine Wl.guardT rfl rfl hb18 ?_
    refine wZ rg (o_bslice td142 ok25 zav25 (es := [eDiagram a, eDiagram b]) rfl (kk := 3) rfl rfl rfl rfl rfl rfl (fun g9 => ?_))
    refine Wl.guardT rfl rfl hb18 ?_
    refine Wl.wk (canon_freeze (k := 32) (xs := List.map eDiagram [a, b]) rfl (es := [(2, .int .i64 state), (3, .ptr rg 3 g1 0 0), (4, .ptr rg 4 g2 0 0), (29, .bool (!r21)), (32, eL eDiagram [a, b])]) (fc vr (fc vr (fc vr (fc vr (fc (frz_full rfl) (fn)))))) (m := [(3, .arr 3 [eDiagram a], g1), (4, .arr 3 [eDiagram b], g2)]) (sc rfl (sc rfl (sn)))) ?_
    refine wZ rg (o_call (us := [eL eDiagram [a, b]]) rfl (vl' vr (vn)) (law16_valid_ctr h fun r22 h => ?_))
    refine Wl.guardT rfl rfl hb18 ?_
    refine wZ rg (o_not rfl (wZ rg (o_pickF rfl hb18 (v := .bool (!r22)) rfl (mvZ (.bool (!r22)) rfl ?_))))
    refine Wl.guard rfl rfl (fun hb19 => ?_) (fun hb19 => ?_)
    · replace h := h.2 hb19
      refine mvZ (.int .i64 state) rfl ?_
      refine Wl.guardT rfl rfl hb19 ?_
      refine wZ rg (o_lss rfl rfl (wZ rg (o_pickF rfl hb19 (v := .bool (decide (state < 0))) rfl (mvZ (.bool (decide (state < 0))) rfl ?_))))
      refine Wl.guard rfl rfl (fun hb20 => ?_) (fun hb20 => ?_)
      · replace h := h.2 hb20
        refine mvZ (.int .i64 state) rfl ?_
        refine Wl.guardT rfl rfl hb20 ?_
        refine wZ rg (o_faP td25 rfl rfl (by rw [sz22]; decide) rfl ?_)
        refine Wl.guardT rfl rfl hb20 ?_
        refine wZ rg (o_loadB1 (atL (k := 3) rfl) sz22 ag22 rfl rfl (v := eL (AV.int .i64) a.Order) rfl ?_)
        refine Wl.guardT rfl rfl hb20 ?_
        refine wZ rg (o_len td22 rfl ?_)
        refine Wl.guardT rfl rfl hb20 ?_
        refine wZ rg (o_shlG rfl rfl h.1 ?_)
        replace h := h.2
        refine Wl.guardT rfl rfl hb20 ?_
        refine wZ rg (o_geq rfl rfl (wZ rg (o_pickF rfl hb20 (v := .bool (decide ((1 * 2 ^ (Int.toNat (a.Order.length : Int))) ≤ state))) rfl (nZ ?_))))
        exact ⟨((decide ((1 * 2 ^ (Int.toNat (a.Order.length : Int))) ≤ state)), (g1, g2)), (canon (fc vr (fc vr (fc vr (fc vr (fn))))) (sc rfl (sc rfl (sn)))), h⟩
      replace h := h.1 hb20
      refine Wl.guardF rfl rfl hb20 rfl ?_
      refine Wl.guardF rfl rfl hb20 rfl ?_
      refine Wl.guardF rfl rfl hb20 rfl ?_
      refine Wl.guardF rfl rfl hb20 rfl ?_
      refine Wl.guardF rfl rfl hb20 rfl ?_
      refine wZ rg (o_pickT rfl hb20 (v := .bool true) rfl (nZ ?_))
      exact ⟨(true, (g1, g2)), (canon (fc vr (fc vr (fc vr (fc vr (fn))))) (sc rfl (sc rfl (sn)))), h⟩
    replace h := h.1 hb19
    refine Wl.guardF rfl rfl hb19 rfl ?_
    refine wZ rg (o_pickT rfl hb19 (v := .bool true) rfl (mvZ (.bool true) rfl ?_))
    refine Wl.guardF rfl rfl rfl rfl ?_
    refine Wl.guardF rfl rfl rfl rfl ?_
    refine Wl.guardF rfl rfl rfl rfl ?_
    refine Wl.guardF rfl rfl rfl rfl ?_
    refine Wl.guardF rfl rfl rfl rfl ?_
    refine Wl.guardF rfl rfl rfl rfl ?_
    refine wZ rg (o_pickT rfl rfl (v := .bool true) rfl (nZ ?_))
    exact ⟨(true, (g1, g2)), (canon (fc vr (fc vr (fc vr (fc vr (fn))))) (sc rfl (sc rfl (sn)))), h⟩
  replace h := h.1 hb18
  refine Wl.guardF rfl rfl hb18 rfl ?_
  refine Wl.guardF rfl rfl hb18 rfl ?_
  refine Wl.guardF rfl rfl hb18 rfl ?_
  refine Wl.guardF rfl rfl hb18 rfl ?_
  refine wZ rg (o_pickT rfl hb18 (v := .bool true) rfl (mvZ (.bool true) rfl ?_))
  refine Wl.guardF rfl rfl rfl rfl ?_
  refine Wl.guardF rfl rfl rfl rfl ?_
  refine wZ rg (o_pickT rfl rfl (v := .bool true) rfl (mvZ (.bool true) rfl ?_))
  refine Wl.guardF rfl rfl rfl rfl ?_
  refine Wl.guardF rfl rfl rfl rfl ?_
  refine Wl.guardF rfl rfl rfl rfl ?_
  refine Wl.guardF rfl rfl rfl rfl ?_
  refine Wl.guardF rfl rfl rfl rfl ?_
  refine Wl.guardF rfl rfl rfl rfl ?_
  refine wZ rg (o_pickT rfl rfl (v := .bool true) rfl (nZ ?_))
  exact ⟨(true, (g1, g2)), (canon (fc vr (fc vr (fc vr (fc vr (fn))))) (sc rfl (sc rfl (sn)))), h⟩
end Go.Proofs.Ytllegjdggcmgaaa
