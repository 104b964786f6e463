/- Walks of functions. Conditions: none. -/
import Derived.Test.YtllegjdggcmgaaaWa
import Derived.Test.YtllegjdggcmgaaaGgTy
import Derived.Test.YtllegjdggcmgaaaK1
import Derived.Test.YtllegjdggcmgaaaK3
import Derived.Test.YtllegjdggcmgaaaK9
/- Walks of functions. Conditions: none. -/
namespace Go.Proofs.Ytllegjdggcmgaaa
open Go.Gg
set_option maxRecDepth 100000
set_option maxHeartbeats 4000000 in
theorem law16_AlgebraLaws_ctr {a : GDiagram} {b : GDiagram} {c : GDiagram} {Q : Bool → Prop} {S : St} {R : AV → St → Prop} (h : law16_AlgebraLaws_W a b c Q) (hQ : ∀ r1, Q r1 → R (AV.bool r1) S) :
    Ctr Try.prog 4 [eDiagram a, eDiagram b, eDiagram c] S R := by
  unfold law16_AlgebraLaws_W at h
  refine enterT Try.func4 rfl Try.ntmps4 Try.results4 (by kernel_rfl) (fun rg hrg => ?_)
  refine qZ (rZ (wZ rg (o_box (v := eDiagram a) rfl rfl (kk := 3) rfl (by decide) (fun g1 => (wZ rg (o_box (v := eDiagram b) rfl rfl (kk := 3) rfl (by decide) (fun g2 => (wZ rg (o_box (v := eDiagram c) rfl rfl (kk := 3) rfl (by decide) (fun g3 => (asZ (.bool false) rfl (nZ (qZ ?_)))))))))))))
  obtain ⟨J, h, hJ⟩ := h
  refine Vc.join' (σ := ((Bool) × (Nat × Nat × Nat))) (fun y => J y.1) (fun y => envOf [(3, .ptr rg 3 y.2.1 0 0), (4, .ptr rg 4 y.2.2.1 0 0), (5, .ptr rg 5 y.2.2.2 0 0), (40, .bool y.1)]) (fun y => stL S rg [(3, .arr 3 [eDiagram a], y.2.1), (4, .arr 3 [eDiagram b], y.2.2.1), (5, .arr 3 [eDiagram c], y.2.2.2)]) (fun y h => ?_) ?_
  · obtain ⟨x, ⟨g4, g5, g6⟩⟩ := y
    replace h := hJ x h
    show Vc _ _ _ _ (envOf [(3, .ptr rg 3 g4 0 0), (4, .ptr rg 4 g5 0 0), (5, .ptr rg 5 g6 0 0), (40, .bool x)]) (stL S rg [(3, .arr 3 [eDiagram a], g4), (4, .arr 3 [eDiagram b], g5), (5, .arr 3 [eDiagram c], g6)])
    refine Vc.cond' rfl (fun hb => ?_) (fun hb => ?_)
    · replace h := h.1 hb
      refine qZ (rZ (wZ rg (o_call (us := []) rfl (vn) (law16_awake_ctr h fun r h => (asZ (.bool r) rfl (nZ ?_))))))
      refine Vc.ret' ?_
      refine res_tmp (v := .bool r) rfl (res_nil ?_)
      show Gives _ (.bool r) _
      exact gives_out hrg (VW.refl _) (hQ _ h)
    replace h := h.2 hb
    refine Vc.skip' ?_
    refine qZ (rZ (wZ rg (o_loadBA (atL (k := 3) rfl) sz25 (by decide) ag25 rfl rfl (v := eDiagram a) rfl (wZ rg (o_call (us := [eDiagram a]) rfl (vl' vr (vn)) (algebra_Not_ctr h fun r1 r2 h => (mvZ (.tuple [eDiagram r1, eErr 83 r2]) rfl (wZ rg (o_extract (v := eDiagram r1) rfl rfl rfl (wZ rg (o_extract (v := eErr 83 r2) rfl rfl rfl (wZ rg (o_alloc zav25 ok25 (kk := 3) rfl (fun g7 => ?_))))))))))))))
    refine wZ rg (o_storeB (atL (k := 7) rfl) sz25 (by decide) rfl (w := eDiagram r1) rfl rfl rfl (v := eDiagram r1) rfl setL (asZ (eErr 83 r2) rfl (nZ (qZ (rZ (wZ rg (o_loadBA (atL (k := 7) rfl) sz25 (by decide) ag25 rfl rfl (v := eDiagram r1) rfl (wZ rg (o_call (us := [eDiagram r1]) rfl (vl' vr (vn)) (algebra_Not_ctr h fun r3 r4 h => (mvZ (.tuple [eDiagram r3, eErr 83 r4]) rfl ?_)))))))))))
    refine wZ rg (o_extract (v := eDiagram r3) rfl rfl rfl (wZ rg (o_extract (v := eErr 83 r4) rfl rfl rfl (wZ rg (o_alloc zav25 ok25 (kk := 3) rfl (fun g8 => (wZ rg (o_storeB (atL (k := 9) rfl) sz25 (by decide) rfl (w := eDiagram r3) rfl rfl rfl (v := eDiagram r3) rfl setL (asZ (eErr 83 r4) rfl (nZ (qZ (rZ (wZ rg (o_loadBA (atL (k := 4) rfl) sz25 (by decide) ag25 rfl rfl (v := eDiagram b) rfl ?_))))))))))))))
    refine wZ rg (o_call (us := [eDiagram b]) rfl (vl' vr (vn)) (algebra_Not_ctr h fun r5 r6 h => (mvZ (.tuple [eDiagram r5, eErr 83 r6]) rfl (wZ rg (o_extract (v := eDiagram r5) rfl rfl rfl (wZ rg (o_extract (v := eErr 83 r6) rfl rfl rfl (wZ rg (o_alloc zav25 ok25 (kk := 3) rfl (fun g9 => ?_))))))))))
    refine wZ rg (o_storeB (atL (k := 11) rfl) sz25 (by decide) rfl (w := eDiagram r5) rfl rfl rfl (v := eDiagram r5) rfl setL (asZ (eErr 83 r6) rfl (nZ (qZ (rZ (wZ rg (o_loadBA (atL (k := 3) rfl) sz25 (by decide) ag25 rfl rfl (v := eDiagram a) rfl (wZ rg (o_loadBA (atL (k := 4) rfl) sz25 (by decide) ag25 rfl rfl (v := eDiagram b) rfl ?_)))))))))
    refine wZ rg (o_call (us := [eDiagram a, eDiagram b]) rfl (vl' vr (vl' vr (vn))) (algebra_And_ctr h fun r7 r8 h => (mvZ (.tuple [eDiagram r7, eErr 83 r8]) rfl (wZ rg (o_extract (v := eDiagram r7) rfl rfl rfl (wZ rg (o_extract (v := eErr 83 r8) rfl rfl rfl (wZ rg (o_alloc zav25 ok25 (kk := 3) rfl (fun g10 => ?_))))))))))
    refine wZ rg (o_storeB (atL (k := 13) rfl) sz25 (by decide) rfl (w := eDiagram r7) rfl rfl rfl (v := eDiagram r7) rfl setL (asZ (eErr 83 r8) rfl (nZ (qZ (rZ (wZ rg (o_loadBA (atL (k := 13) rfl) sz25 (by decide) ag25 rfl rfl (v := eDiagram r7) rfl (wZ rg (o_call (us := [eDiagram r7]) rfl (vl' vr (vn)) (algebra_Not_ctr h fun r9 r10 h => (mvZ (.tuple [eDiagram r9, eErr 83 r10]) rfl ?_)))))))))))
    refine wZ rg (o_extract (v := eDiagram r9) rfl rfl rfl (wZ rg (o_extract (v := eErr 83 r10) rfl rfl rfl (wZ rg (o_alloc zav25 ok25 (kk := 3) rfl (fun g11 => (wZ rg (o_storeB (atL (k := 15) rfl) sz25 (by decide) rfl (w := eDiagram r9) rfl rfl rfl (v := eDiagram r9) rfl setL (asZ (eErr 83 r10) rfl (nZ (qZ (rZ ?_))))))))))))
    refine wZ rg (o_loadBA (atL (k := 7) rfl) sz25 (by decide) ag25 rfl rfl (v := eDiagram r1) rfl (wZ rg (o_loadBA (atL (k := 11) rfl) sz25 (by decide) ag25 rfl rfl (v := eDiagram r5) rfl (wZ rg (o_call (us := [eDiagram r1, eDiagram r5]) rfl (vl' vr (vl' vr (vn))) (algebra_Or_ctr h fun r11 r12 h => (mvZ (.tuple [eDiagram r11, eErr 83 r12]) rfl (wZ rg (o_extract (v := eDiagram r11) rfl rfl rfl ?_)))))))))
    refine wZ rg (o_extract (v := eErr 83 r12) rfl rfl rfl (wZ rg (o_alloc zav25 ok25 (kk := 3) rfl (fun g12 => (wZ rg (o_storeB (atL (k := 17) rfl) sz25 (by decide) rfl (w := eDiagram r11) rfl rfl rfl (v := eDiagram r11) rfl setL (asZ (eErr 83 r12) rfl (nZ (qZ (rZ (wZ rg (o_loadBA (atL (k := 4) rfl) sz25 (by decide) ag25 rfl rfl (v := eDiagram b) rfl ?_))))))))))))
    refine wZ rg (o_loadBA (atL (k := 5) rfl) sz25 (by decide) ag25 rfl rfl (v := eDiagram c) rfl (wZ rg (o_call (us := [eDiagram b, eDiagram c]) rfl (vl' vr (vl' vr (vn))) (algebra_Or_ctr h fun r13 r14 h => (mvZ (.tuple [eDiagram r13, eErr 83 r14]) rfl (wZ rg (o_extract (v := eDiagram r13) rfl rfl rfl (wZ rg (o_extract (v := eErr 83 r14) rfl rfl rfl ?_)))))))))
    refine wZ rg (o_alloc zav25 ok25 (kk := 3) rfl (fun g13 => (wZ rg (o_storeB (atL (k := 19) rfl) sz25 (by decide) rfl (w := eDiagram r13) rfl rfl rfl (v := eDiagram r13) rfl setL (asZ (eErr 83 r14) rfl (nZ (qZ (rZ (wZ rg (o_loadBA (atL (k := 3) rfl) sz25 (by decide) ag25 rfl rfl (v := eDiagram a) rfl (wZ rg (o_loadBA (atL (k := 19) rfl) sz25 (by decide) ag25 rfl rfl (v := eDiagram r13) rfl ?_))))))))))))
    refine wZ rg (o_call (us := [eDiagram a, eDiagram r13]) rfl (vl' vr (vl' vr (vn))) (algebra_And_ctr h fun r15 r16 h => (mvZ (.tuple [eDiagram r15, eErr 83 r16]) rfl (wZ rg (o_extract (v := eDiagram r15) rfl rfl rfl (wZ rg (o_extract (v := eErr 83 r16) rfl rfl rfl (wZ rg (o_alloc zav25 ok25 (kk := 3) rfl (fun g14 => ?_))))))))))
    refine wZ rg (o_storeB (atL (k := 21) rfl) sz25 (by decide) rfl (w := eDiagram r15) rfl rfl rfl (v := eDiagram r15) rfl setL (asZ (eErr 83 r16) rfl (nZ (qZ (rZ (wZ rg (o_loadBA (atL (k := 3) rfl) sz25 (by decide) ag25 rfl rfl (v := eDiagram a) rfl (wZ rg (o_loadBA (atL (k := 5) rfl) sz25 (by decide) ag25 rfl rfl (v := eDiagram c) rfl ?_)))))))))
    refine wZ rg (o_call (us := [eDiagram a, eDiagram c]) rfl (vl' vr (vl' vr (vn))) (algebra_And_ctr h fun r17 r18 h => (mvZ (.tuple [eDiagram r17, eErr 83 r18]) rfl (wZ rg (o_extract (v := eDiagram r17) rfl rfl rfl (wZ rg (o_extract (v := eErr 83 r18) rfl rfl rfl (wZ rg (o_alloc zav25 ok25 (kk := 3) rfl (fun g15 => ?_))))))))))
    refine wZ rg (o_storeB (atL (k := 23) rfl) sz25 (by decide) rfl (w := eDiagram r17) rfl rfl rfl (v := eDiagram r17) rfl setL (asZ (eErr 83 r18) rfl (nZ (qZ (rZ (wZ rg (o_loadBA (atL (k := 13) rfl) sz25 (by decide) ag25 rfl rfl (v := eDiagram r7) rfl (wZ rg (o_loadBA (atL (k := 23) rfl) sz25 (by decide) ag25 rfl rfl (v := eDiagram r17) rfl ?_)))))))))
    refine wZ rg (o_call (us := [eDiagram r7, eDiagram r17]) rfl (vl' vr (vl' vr (vn))) (algebra_Or_ctr h fun r19 r20 h => (mvZ (.tuple [eDiagram r19, eErr 83 r20]) rfl (wZ rg (o_extract (v := eDiagram r19) rfl rfl rfl (wZ rg (o_extract (v := eErr 83 r20) rfl rfl rfl (wZ rg (o_alloc zav25 ok25 (kk := 3) rfl (fun g16 => ?_))))))))))
    refine wZ rg (o_storeB (atL (k := 25) rfl) sz25 (by decide) rfl (w := eDiagram r19) rfl rfl rfl (v := eDiagram r19) rfl setL (asZ (eErr 83 r20) rfl (nZ (qZ (rZ (wZ rg (o_loadBA (atL (k := 3) rfl) sz25 (by decide) ag25 rfl rfl (v := eDiagram a) rfl (wZ rg (o_loadBA (atL (k := 13) rfl) sz25 (by decide) ag25 rfl rfl (v := eDiagram r7) rfl ?_)))))))))
    refine wZ rg (o_call (us := [eDiagram a, eDiagram r7]) rfl (vl' vr (vl' vr (vn))) (algebra_Or_ctr h fun r21 r22 h => (mvZ (.tuple [eDiagram r21, eErr 83 r22]) rfl (wZ rg (o_extract (v := eDiagram r21) rfl rfl rfl (wZ rg (o_extract (v := eErr 83 r22) rfl rfl rfl (wZ rg (o_alloc zav25 ok25 (kk := 3) rfl (fun g17 => ?_))))))))))
    refine wZ rg (o_storeB (atL (k := 27) rfl) sz25 (by decide) rfl (w := eDiagram r21) rfl rfl rfl (v := eDiagram r21) rfl setL (asZ (eErr 83 r22) rfl (nZ (qZ (rZ (wZ rg (o_loadBA (atL (k := 3) rfl) sz25 (by decide) ag25 rfl rfl (v := eDiagram a) rfl (wZ rg (o_loadBA (atL (k := 7) rfl) sz25 (by decide) ag25 rfl rfl (v := eDiagram r1) rfl ?_)))))))))
    refine wZ rg (o_call (us := [eDiagram a, eDiagram r1]) rfl (vl' vr (vl' vr (vn))) (algebra_And_ctr h fun r23 r24 h => (mvZ (.tuple [eDiagram r23, eErr 83 r24]) rfl (wZ rg (o_extract (v := eDiagram r23) rfl rfl rfl (wZ rg (o_extract (v := eErr 83 r24) rfl rfl rfl (wZ rg (o_alloc zav25 ok25 (kk := 3) rfl (fun g18 => ?_))))))))))
    refine wZ rg (o_storeB (atL (k := 29) rfl) sz25 (by decide) rfl (w := eDiagram r23) rfl rfl rfl (v := eDiagram r23) rfl setL (asZ (eErr 83 r24) rfl (nZ (qZ (qZ (rZ (mvZ (eErr 83 r2) rfl (wZ rg (o_isnon td29 (E := 83) rfl rfl rfl (mvZ (.bool (Option.isSome r2)) rfl ?_))))))))))
    refine Wl.guard rfl rfl (fun hb1 => ?_) (fun hb1 => ?_)
    · replace h := h.2 hb1
      refine mvZ (eErr 83 r4) rfl ?_
      refine Wl.guardT rfl rfl hb1 ?_
      refine wZ rg (o_isnon td29 (E := 83) rfl rfl rfl (wZ rg (o_pickF rfl hb1 (v := .bool (Option.isSome r4)) rfl (mvZ (.bool (Option.isSome r4)) rfl ?_))))
      refine Wl.guard rfl rfl (fun hb2 => ?_) (fun hb2 => ?_)
      · replace h := h.2 hb2
        refine mvZ (eErr 83 r6) rfl ?_
        refine Wl.guardT rfl rfl hb2 ?_
        refine wZ rg (o_isnon td29 (E := 83) rfl rfl rfl (wZ rg (o_pickF rfl hb2 (v := .bool (Option.isSome r6)) rfl (mvZ (.bool (Option.isSome r6)) rfl ?_))))
        refine Wl.guard rfl rfl (fun hb3 => ?_) (fun hb3 => ?_)
        · replace h := h.2 hb3
          refine mvZ (eErr 83 r8) rfl ?_
          refine Wl.guardT rfl rfl hb3 ?_
          refine wZ rg (o_isnon td29 (E := 83) rfl rfl rfl (wZ rg (o_pickF rfl hb3 (v := .bool (Option.isSome r8)) rfl (mvZ (.bool (Option.isSome r8)) rfl ?_))))
          refine Wl.guard rfl rfl (fun hb4 => ?_) (fun hb4 => ?_)
          · replace h := h.2 hb4
            refine mvZ (eErr 83 r10) rfl ?_
            refine Wl.guardT rfl rfl hb4 ?_
            refine wZ rg (o_isnon td29 (E := 83) rfl rfl rfl (wZ rg (o_pickF rfl hb4 (v := .bool (Option.isSome r10)) rfl (mvZ (.bool (Option.isSome r10)) rfl ?_))))
            refine Wl.guard rfl rfl (fun hb5 => ?_) (fun hb5 => ?_)
            · replace h := h.2 hb5
              refine mvZ (eErr 83 r12) rfl ?_
              refine Wl.guardT rfl rfl hb5 ?_
              refine wZ rg (o_isnon td29 (E := 83) rfl rfl rfl (wZ rg (o_pickF rfl hb5 (v := .bool (Option.isSome r12)) rfl (mvZ (.bool (Option.isSome r12)) rfl ?_))))
              refine Wl.guard rfl rfl (fun hb6 => ?_) (fun hb6 => ?_)
              · replace h := h.2 hb6
                refine mvZ (eErr 83 r14) rfl ?_
                refine Wl.guardT rfl rfl hb6 ?_
                refine wZ rg (o_isnon td29 (E := 83) rfl rfl rfl (wZ rg (o_pickF rfl hb6 (v := .bool (Option.isSome r14)) rfl (mvZ (.bool (Option.isSome r14)) rfl ?_))))
                refine Wl.guard rfl rfl (fun hb7 => ?_) (fun hb7 => ?_)
                · replace h := h.2 hb7
                  refine mvZ (eErr 83 r16) rfl ?_
                  refine Wl.guardT rfl rfl hb7 ?_
                  refine wZ rg (o_isnon td29 (E := 83) rfl rfl rfl (wZ rg (o_pickF rfl hb7 (v := .bool (Option.isSome r16)) rfl (mvZ (.bool (Option.isSome r16)) rfl ?_))))
                  refine Wl.guard rfl rfl (fun hb8 => ?_) (fun hb8 => ?_)
                  · replace h := h.2 hb8
                    refine mvZ (eErr 83 r18) rfl ?_
                    refine Wl.guardT rfl rfl hb8 ?_
                    refine wZ rg (o_isnon td29 (E := 83) rfl rfl rfl (wZ rg (o_pickF rfl hb8 (v := .bool (Option.isSome r18)) rfl (mvZ (.bool (Option.isSome r18)) rfl ?_))))
                    refine Wl.guard rfl rfl (fun hb9 => ?_) (fun hb9 => ?_)
                    · replace h := h.2 hb9
                      refine mvZ (eErr 83 r20) rfl ?_
                      refine Wl.guardT rfl rfl hb9 ?_
                      refine wZ rg (o_isnon td29 (E := 83) rfl rfl rfl (wZ rg (o_pickF rfl hb9 (v := .bool (Option.isSome r20)) rfl (mvZ (.bool (Option.isSome r20)) rfl ?_))))
                      refine Wl.guard rfl rfl (fun hb10 => ?_) (fun hb10 => ?_)
                      · replace h := h.2 hb10
                        refine mvZ (eErr 83 r22) rfl ?_
                        refine Wl.guardT rfl rfl hb10 ?_
                        refine wZ rg (o_isnon td29 (E := 83) rfl rfl rfl (wZ rg (o_pickF rfl hb10 (v := .bool (Option.isSome r22)) rfl (mvZ (.bool (Option.isSome r22)) rfl ?_))))
                        refine Wl.guard rfl rfl (fun hb11 => ?_) (fun hb11 => ?_)
                        · replace h := h.2 hb11
                          refine mvZ (eErr 83 r24) rfl ?_
                          refine Wl.guardT rfl rfl hb11 ?_
                          refine wZ rg (o_isnon td29 (E := 83) rfl rfl rfl (wZ rg (o_pickF rfl hb11 (v := .bool (Option.isSome r24)) rfl (nZ ?_))))
                          refine Vc.cond' rfl (fun hb12 => ?_) (fun hb12 => ?_)
                          · replace h := h.1 hb12
                            refine qZ (rZ (asZ (.bool false) rfl (nZ ?_)))
                            refine Vc.ret' ?_
                            refine res_tmp (v := .bool false) rfl (res_nil ?_)
                            show Gives _ (.bool false) _
                            exact gives_out hrg (VW.refl _) (hQ _ h)
                          replace h := h.2 hb12
                          refine Vc.skip' ?_
                          refine qZ (rZ (wZ rg (o_loadBA (atL (k := 9) rfl) sz25 (by decide) ag25 rfl rfl (v := eDiagram r3) rfl (wZ rg (o_loadBA (atL (k := 3) rfl) sz25 (by decide) ag25 rfl rfl (v := eDiagram a) rfl (wZ rg (o_call (us := [eDiagram r3, eDiagram a]) rfl (vl' vr (vl' vr (vn))) (base_Diagram_ctr h fun r25 h => (mvZ (.bool r25) rfl ?_)))))))))
                          refine Wl.guard rfl rfl (fun hb13 => ?_) (fun hb13 => ?_)
                          · replace h := h.1 hb13
                            refine wZ rg (o_loadBA (atL (k := 15) rfl) sz25 (by decide) ag25 rfl rfl (v := eDiagram r9) rfl ?_)
                            refine Wl.guardT rfl rfl hb13 ?_
                            refine wZ rg (o_loadBA (atL (k := 17) rfl) sz25 (by decide) ag25 rfl rfl (v := eDiagram r11) rfl ?_)
                            refine Wl.guardT rfl rfl hb13 ?_
                            refine wZ rg (o_call (us := [eDiagram r9, eDiagram r11]) rfl (vl' vr (vl' vr (vn))) (base_Diagram_ctr h fun r26 h => (wZ rg (o_pickT rfl hb13 (v := .bool r26) rfl (mvZ (.bool r26) rfl ?_)))))
                            refine Wl.guard rfl rfl (fun hb14 => ?_) (fun hb14 => ?_)
                            · replace h := h.1 hb14
                              refine wZ rg (o_loadBA (atL (k := 21) rfl) sz25 (by decide) ag25 rfl rfl (v := eDiagram r15) rfl ?_)
                              refine Wl.guardT rfl rfl hb14 ?_
                              refine wZ rg (o_loadBA (atL (k := 25) rfl) sz25 (by decide) ag25 rfl rfl (v := eDiagram r19) rfl ?_)
                              refine Wl.guardT rfl rfl hb14 ?_
                              refine wZ rg (o_call (us := [eDiagram r15, eDiagram r19]) rfl (vl' vr (vl' vr (vn))) (base_Diagram_ctr h fun r27 h => (wZ rg (o_pickT rfl hb14 (v := .bool r27) rfl (mvZ (.bool r27) rfl ?_)))))
                              refine Wl.guard rfl rfl (fun hb15 => ?_) (fun hb15 => ?_)
                              · replace h := h.1 hb15
                                refine wZ rg (o_loadBA (atL (k := 27) rfl) sz25 (by decide) ag25 rfl rfl (v := eDiagram r21) rfl ?_)
                                refine Wl.guardT rfl rfl hb15 ?_
                                refine wZ rg (o_loadBA (atL (k := 3) rfl) sz25 (by decide) ag25 rfl rfl (v := eDiagram a) rfl ?_)
                                refine Wl.guardT rfl rfl hb15 ?_
                                refine wZ rg (o_call (us := [eDiagram r21, eDiagram a]) rfl (vl' vr (vl' vr (vn))) (base_Diagram_ctr h fun r28 h => (wZ rg (o_pickT rfl hb15 (v := .bool r28) rfl (mvZ (.bool r28) rfl ?_)))))
                                refine Wl.guard rfl rfl (fun hb16 => ?_) (fun hb16 => ?_)
                                · replace h := h.1 hb16
                                  refine wZ rg (o_faP td25 rfl rfl (by rw [sz3]; decide) rfl ?_)
                                  refine Wl.guardT rfl rfl hb16 ?_
                                  refine wZ rg (o_loadB1 (atL (k := 29) rfl) sz3 ag3 rfl rfl (v := .int .i64 r23.Root) rfl ?_)
                                  refine Wl.guardT rfl rfl hb16 ?_
                                  refine wZ rg (o_eql rfl rfl (wZ rg (o_pickT rfl hb16 (v := .bool (r23.Root == 0)) rfl (mvZ (.bool (r23.Root == 0)) rfl ?_))))
                                  refine Wl.guard rfl rfl (fun hb17 => ?_) (fun hb17 => ?_)
                                  · replace h := h.1 hb17
                                    refine wZ rg (o_faP td25 rfl rfl (by rw [sz23]; decide) rfl ?_)
                                    refine Wl.guardT rfl rfl hb17 ?_
                                    refine wZ rg (o_loadB1 (atL (k := 29) rfl) sz23 ag23 rfl rfl (v := eL eDNode r23.Nodes) rfl ?_)
                                    refine Wl.guardT rfl rfl hb17 ?_
                                    refine wZ rg (o_len td23 rfl ?_)
                                    refine Wl.guardT rfl rfl hb17 ?_
                                    refine wZ rg (o_eql rfl rfl (wZ rg (o_pickT rfl hb17 (v := .bool ((r23.Nodes.length : Int) == 0)) rfl (asZ (.bool ((r23.Nodes.length : Int) == 0)) rfl (nZ ?_)))))
                                    refine Vc.ret' ?_
                                    refine res_tmp (v := .bool ((r23.Nodes.length : Int) == 0)) rfl (res_nil ?_)
                                    show Gives _ (.bool ((r23.Nodes.length : Int) == 0)) _
                                    exact gives_out hrg (VW.refl _) (hQ _ h)
                                  replace h := h.2 hb17
                                  refine Wl.guardF rfl rfl hb17 rfl ?_
                                  refine Wl.guardF rfl rfl hb17 rfl ?_
                                  refine Wl.guardF rfl rfl hb17 rfl ?_
                                  refine wZ rg (o_pickF rfl hb17 (v := .bool false) rfl (asZ (.bool false) rfl (nZ ?_)))
                                  refine Vc.ret' ?_
                                  refine res_tmp (v := .bool false) rfl (res_nil ?_)
                                  show Gives _ (.bool false) _
                                  exact gives_out hrg (VW.refl _) (hQ _ h)
                                replace h := h.2 hb16
                                refine Wl.guardF rfl rfl hb16 rfl ?_
                                refine Wl.guardF rfl rfl hb16 rfl ?_
                                refine wZ rg (o_pickF rfl hb16 (v := .bool false) rfl (mvZ (.bool false) rfl ?_))
                                refine Wl.guardF rfl rfl rfl rfl ?_
                                refine Wl.guardF rfl rfl rfl rfl ?_
                                refine Wl.guardF rfl rfl rfl rfl ?_
                                refine Wl.guardF rfl rfl rfl rfl ?_
                                refine wZ rg (o_pickF rfl rfl (v := .bool false) rfl (asZ (.bool false) rfl (nZ ?_)))
                                refine Vc.ret' ?_
                                refine res_tmp (v := .bool false) rfl (res_nil ?_)
                                show Gives _ (.bool false) _
                                exact gives_out hrg (VW.refl _) (hQ _ h)
                              replace h := h.2 hb15
                              refine Wl.guardF rfl rfl hb15 rfl ?_
                              refine Wl.guardF rfl rfl hb15 rfl ?_
                              refine wZ rg (o_pickF rfl hb15 (v := .bool false) rfl (mvZ (.bool false) rfl ?_))
                              refine Wl.guardF rfl rfl rfl rfl ?_
                              refine Wl.guardF rfl rfl rfl rfl ?_
                              refine Wl.guardF rfl rfl rfl rfl ?_
                              refine wZ rg (o_pickF rfl rfl (v := .bool false) rfl (mvZ (.bool false) rfl ?_))
                              refine Wl.guardF rfl rfl rfl rfl ?_
                              refine Wl.guardF rfl rfl rfl rfl ?_
                              refine Wl.guardF rfl rfl rfl rfl ?_
                              refine Wl.guardF rfl rfl rfl rfl ?_
                              refine wZ rg (o_pickF rfl rfl (v := .bool false) rfl (asZ (.bool false) rfl (nZ ?_)))
                              refine Vc.ret' ?_
                              refine res_tmp (v := .bool false) rfl (res_nil ?_)
                              show Gives _ (.bool false) _
                              exact gives_out hrg (VW.refl _) (hQ _ h)
                            replace h := h.2 hb14
                            refine Wl.guardF rfl rfl hb14 rfl ?_
                            refine Wl.guardF rfl rfl hb14 rfl ?_
                            refine wZ rg (o_pickF rfl hb14 (v := .bool false) rfl (mvZ (.bool false) rfl ?_))
                            refine Wl.guardF rfl rfl rfl rfl ?_
                            refine Wl.guardF rfl rfl rfl rfl ?_
                            refine Wl.guardF rfl rfl rfl rfl ?_
                            refine wZ rg (o_pickF rfl rfl (v := .bool false) rfl (mvZ (.bool false) rfl ?_))
                            refine Wl.guardF rfl rfl rfl rfl ?_
                            refine Wl.guardF rfl rfl rfl rfl ?_
                            refine Wl.guardF rfl rfl rfl rfl ?_
                            refine wZ rg (o_pickF rfl rfl (v := .bool false) rfl (mvZ (.bool false) rfl ?_))
                            refine Wl.guardF rfl rfl rfl rfl ?_
                            refine Wl.guardF rfl rfl rfl rfl ?_
                            refine Wl.guardF rfl rfl rfl rfl ?_
                            refine Wl.guardF rfl rfl rfl rfl ?_
                            refine wZ rg (o_pickF rfl rfl (v := .bool false) rfl (asZ (.bool false) rfl (nZ ?_)))
                            refine Vc.ret' ?_
                            refine res_tmp (v := .bool false) rfl (res_nil ?_)
                            show Gives _ (.bool false) _
                            exact gives_out hrg (VW.refl _) (hQ _ h)
                          replace h := h.2 hb13
                          refine Wl.guardF rfl rfl hb13 rfl ?_
                          refine Wl.guardF rfl rfl hb13 rfl ?_
                          refine wZ rg (o_pickF rfl hb13 (v := .bool false) rfl (mvZ (.bool false) rfl ?_))
                          refine Wl.guardF rfl rfl rfl rfl ?_
                          refine Wl.guardF rfl rfl rfl rfl ?_
                          refine Wl.guardF rfl rfl rfl rfl ?_
                          refine wZ rg (o_pickF rfl rfl (v := .bool false) rfl (mvZ (.bool false) rfl ?_))
                          refine Wl.guardF rfl rfl rfl rfl ?_
                          refine Wl.guardF rfl rfl rfl rfl ?_
                          refine Wl.guardF rfl rfl rfl rfl ?_
                          refine wZ rg (o_pickF rfl rfl (v := .bool false) rfl (mvZ (.bool false) rfl ?_))
                          refine Wl.guardF rfl rfl rfl rfl ?_
                          refine Wl.guardF rfl rfl rfl rfl ?_
                          refine Wl.guardF rfl rfl rfl rfl ?_
                          refine wZ rg (o_pickF rfl rfl (v := .bool false) rfl (mvZ (.bool false) rfl ?_))
                          refine Wl.guardF rfl rfl rfl rfl ?_
                          refine Wl.guardF rfl rfl rfl rfl ?_
                          refine Wl.guardF rfl rfl rfl rfl ?_
                          refine Wl.guardF rfl rfl rfl rfl ?_
                          refine wZ rg (o_pickF rfl rfl (v := .bool false) rfl (asZ (.bool false) rfl (nZ ?_)))
                          refine Vc.ret' ?_
                          refine res_tmp (v := .bool false) rfl (res_nil ?_)
                          show Gives _ (.bool false) _
                          exact gives_out hrg (VW.refl _) (hQ _ h)
                        replace h := h.1 hb11
                        refine Wl.guardF rfl rfl hb11 rfl ?_
                        refine wZ rg (o_pickT rfl hb11 (v := .bool true) rfl (nZ ?_))
                        refine Vc.cond' rfl (fun _ => ?_) (fun hb => Bool.noConfusion hb)
                        refine qZ (rZ (asZ (.bool false) rfl (nZ ?_)))
                        refine Vc.ret' ?_
                        refine res_tmp (v := .bool false) rfl (res_nil ?_)
                        show Gives _ (.bool false) _
                        exact gives_out hrg (VW.refl _) (hQ _ h)
                      replace h := h.1 hb10
                      refine Wl.guardF rfl rfl hb10 rfl ?_
                      refine wZ rg (o_pickT rfl hb10 (v := .bool true) rfl (mvZ (.bool true) rfl ?_))
                      refine Wl.guardF rfl rfl rfl rfl ?_
                      refine Wl.guardF rfl rfl rfl rfl ?_
                      refine wZ rg (o_pickT rfl rfl (v := .bool true) rfl (nZ ?_))
                      refine Vc.cond' rfl (fun _ => ?_) (fun hb => Bool.noConfusion hb)
                      refine qZ (rZ (asZ (.bool false) rfl (nZ ?_)))
                      refine Vc.ret' ?_
                      refine res_tmp (v := .bool false) rfl (res_nil ?_)
                      show Gives _ (.bool false) _
                      exact gives_out hrg (VW.refl _) (hQ _ h)
                    replace h := h.1 hb9
                    refine Wl.guardF rfl rfl hb9 rfl ?_
                    refine wZ rg (o_pickT rfl hb9 (v := .bool true) rfl (mvZ (.bool true) rfl ?_))
                    refine Wl.guardF rfl rfl rfl rfl ?_
                    refine Wl.guardF rfl rfl rfl rfl ?_
                    refine wZ rg (o_pickT rfl rfl (v := .bool true) rfl (mvZ (.bool true) rfl ?_))
                    refine Wl.guardF rfl rfl rfl rfl ?_
                    refine Wl.guardF rfl rfl rfl rfl ?_
                    refine wZ rg (o_pickT rfl rfl (v := .bool true) rfl (nZ ?_))
                    refine Vc.cond' rfl (fun _ => ?_) (fun hb => Bool.noConfusion hb)
                    refine qZ (rZ (asZ (.bool false) rfl (nZ ?_)))
                    refine Vc.ret' ?_
                    refine res_tmp (v := .bool false) rfl (res_nil ?_)
                    show Gives _ (.bool false) _
                    exact gives_out hrg (VW.refl _) (hQ _ h)
                  replace h := h.1 hb8
                  refine Wl.guardF rfl rfl hb8 rfl ?_
                  refine wZ rg (o_pickT rfl hb8 (v := .bool true) rfl (mvZ (.bool true) rfl ?_))
                  refine Wl.guardF rfl rfl rfl rfl ?_
                  refine Wl.guardF rfl rfl rfl rfl ?_
                  refine wZ rg (o_pickT rfl rfl (v := .bool true) rfl (mvZ (.bool true) rfl ?_))
                  refine Wl.guardF rfl rfl rfl rfl ?_
                  refine Wl.guardF rfl rfl rfl rfl ?_
                  refine wZ rg (o_pickT rfl rfl (v := .bool true) rfl (mvZ (.bool true) rfl ?_))
                  refine Wl.guardF rfl rfl rfl rfl ?_
                  refine Wl.guardF rfl rfl rfl rfl ?_
                  refine wZ rg (o_pickT rfl rfl (v := .bool true) rfl (nZ ?_))
                  refine Vc.cond' rfl (fun _ => ?_) (fun hb => Bool.noConfusion hb)
                  refine qZ (rZ (asZ (.bool false) rfl (nZ ?_)))
                  refine Vc.ret' ?_
                  refine res_tmp (v := .bool false) rfl (res_nil ?_)
                  show Gives _ (.bool false) _
                  exact gives_out hrg (VW.refl _) (hQ _ h)
                replace h := h.1 hb7
                refine Wl.guardF rfl rfl hb7 rfl ?_
                refine wZ rg (o_pickT rfl hb7 (v := .bool true) rfl (mvZ (.bool true) rfl ?_))
                refine Wl.guardF rfl rfl rfl rfl ?_
                refine Wl.guardF rfl rfl rfl rfl ?_
                refine wZ rg (o_pickT rfl rfl (v := .bool true) rfl (mvZ (.bool true) rfl ?_))
                refine Wl.guardF rfl rfl rfl rfl ?_
                refine Wl.guardF rfl rfl rfl rfl ?_
                refine wZ rg (o_pickT rfl rfl (v := .bool true) rfl (mvZ (.bool true) rfl ?_))
                refine Wl.guardF rfl rfl rfl rfl ?_
                refine Wl.guardF rfl rfl rfl rfl ?_
                refine wZ rg (o_pickT rfl rfl (v := .bool true) rfl (mvZ (.bool true) rfl ?_))
                refine Wl.guardF rfl rfl rfl rfl ?_
                refine Wl.guardF rfl rfl rfl rfl ?_
                refine wZ rg (o_pickT rfl rfl (v := .bool true) rfl (nZ ?_))
                refine Vc.cond' rfl (fun _ => ?_) (fun hb => Bool.noConfusion hb)
                refine qZ (rZ (asZ (.bool false) rfl (nZ ?_)))
                refine Vc.ret' ?_
                refine res_tmp (v := .bool false) rfl (res_nil ?_)
                show Gives _ (.bool false) _
                exact gives_out hrg (VW.refl _) (hQ _ h)
              replace h := h.1 hb6
              refine Wl.guardF rfl rfl hb6 rfl ?_
              refine wZ rg (o_pickT rfl hb6 (v := .bool true) rfl (mvZ (.bool true) rfl ?_))
              refine Wl.guardF rfl rfl rfl rfl ?_
              refine Wl.guardF rfl rfl rfl rfl ?_
              refine wZ rg (o_pickT rfl rfl (v := .bool true) rfl (mvZ (.bool true) rfl ?_))
              refine Wl.guardF rfl rfl rfl rfl ?_
              refine Wl.guardF rfl rfl rfl rfl ?_
              refine wZ rg (o_pickT rfl rfl (v := .bool true) rfl (mvZ (.bool true) rfl ?_))
              refine Wl.guardF rfl rfl rfl rfl ?_
              refine Wl.guardF rfl rfl rfl rfl ?_
              refine wZ rg (o_pickT rfl rfl (v := .bool true) rfl (mvZ (.bool true) rfl ?_))
              refine Wl.guardF rfl rfl rfl rfl ?_
              refine Wl.guardF rfl rfl rfl rfl ?_
              refine wZ rg (o_pickT rfl rfl (v := .bool true) rfl (mvZ (.bool true) rfl ?_))
              refine Wl.guardF rfl rfl rfl rfl ?_
              refine Wl.guardF rfl rfl rfl rfl ?_
              refine wZ rg (o_pickT rfl rfl (v := .bool true) rfl (nZ ?_))
              refine Vc.cond' rfl (fun _ => ?_) (fun hb => Bool.noConfusion hb)
              refine qZ (rZ (asZ (.bool false) rfl (nZ ?_)))
              refine Vc.ret' ?_
              refine res_tmp (v := .bool false) rfl (res_nil ?_)
              show Gives _ (.bool false) _
              exact gives_out hrg (VW.refl _) (hQ _ h)
            replace h := h.1 hb5
            refine Wl.guardF rfl rfl hb5 rfl ?_
            refine wZ rg (o_pickT rfl hb5 (v := .bool true) rfl (mvZ (.bool true) rfl ?_))
            refine Wl.guardF rfl rfl rfl rfl ?_
            refine Wl.guardF rfl rfl rfl rfl ?_
            refine wZ rg (o_pickT rfl rfl (v := .bool true) rfl (mvZ (.bool true) rfl ?_))
            refine Wl.guardF rfl rfl rfl rfl ?_
            refine Wl.guardF rfl rfl rfl rfl ?_
            refine wZ rg (o_pickT rfl rfl (v := .bool true) rfl (mvZ (.bool true) rfl ?_))
            refine Wl.guardF rfl rfl rfl rfl ?_
            refine Wl.guardF rfl rfl rfl rfl ?_
            refine wZ rg (o_pickT rfl rfl (v := .bool true) rfl (mvZ (.bool true) rfl ?_))
            refine Wl.guardF rfl rfl rfl rfl ?_
            refine Wl.guardF rfl rfl rfl rfl ?_
            refine wZ rg (o_pickT rfl rfl (v := .bool true) rfl (mvZ (.bool true) rfl ?_))
            refine Wl.guardF rfl rfl rfl rfl ?_
            refine Wl.guardF rfl rfl rfl rfl ?_
            refine wZ rg (o_pickT rfl rfl (v := .bool true) rfl (mvZ (.bool true) rfl ?_))
            refine Wl.guardF rfl rfl rfl rfl ?_
            refine Wl.guardF rfl rfl rfl rfl ?_
            refine wZ rg (o_pickT rfl rfl (v := .bool true) rfl (nZ ?_))
            refine Vc.cond' rfl (fun _ => ?_) (fun hb => Bool.noConfusion hb)
            refine qZ (rZ (asZ (.bool false) rfl (nZ ?_)))
            refine Vc.ret' ?_
            refine res_tmp (v := .bool false) rfl (res_nil ?_)
            show Gives _ (.bool false) _
            exact gives_out hrg (VW.refl _) (hQ _ h)
          replace h := h.1 hb4
          refine Wl.guardF rfl rfl hb4 rfl ?_
          refine wZ rg (o_pickT rfl hb4 (v := .bool true) rfl (mvZ (.bool true) rfl ?_))
          refine Wl.guardF rfl rfl rfl rfl ?_
          refine Wl.guardF rfl rfl rfl rfl ?_
          refine wZ rg (o_pickT rfl rfl (v := .bool true) rfl (mvZ (.bool true) rfl ?_))
          refine Wl.guardF rfl rfl rfl rfl ?_
          refine Wl.guardF rfl rfl rfl rfl ?_
          refine wZ rg (o_pickT rfl rfl (v := .bool true) rfl (mvZ (.bool true) rfl ?_))
          refine Wl.guardF rfl rfl rfl rfl ?_
          refine Wl.guardF rfl rfl rfl rfl ?_
          refine wZ rg (o_pickT rfl rfl (v := .bool true) rfl (mvZ (.bool true) rfl ?_))
          refine Wl.guardF rfl rfl rfl rfl ?_
          refine Wl.guardF rfl rfl rfl rfl ?_
          refine wZ rg (o_pickT rfl rfl (v := .bool true) rfl (mvZ (.bool true) rfl ?_))
          refine Wl.guardF rfl rfl rfl rfl ?_
          refine Wl.guardF rfl rfl rfl rfl ?_
          refine wZ rg (o_pickT rfl rfl (v := .bool true) rfl (mvZ (.bool true) rfl ?_))
          refine Wl.guardF rfl rfl rfl rfl ?_
          refine Wl.guardF rfl rfl rfl rfl ?_
          refine wZ rg (o_pickT rfl rfl (v := .bool true) rfl (mvZ (.bool true) rfl ?_))
          refine Wl.guardF rfl rfl rfl rfl ?_
          refine Wl.guardF rfl rfl rfl rfl ?_
          refine wZ rg (o_pickT rfl rfl (v := .bool true) rfl (nZ ?_))
          refine Vc.cond' rfl (fun _ => ?_) (fun hb => Bool.noConfusion hb)
          refine qZ (rZ (asZ (.bool false) rfl (nZ ?_)))
          refine Vc.ret' ?_
          refine res_tmp (v := .bool false) rfl (res_nil ?_)
          show Gives _ (.bool false) _
          exact gives_out hrg (VW.refl _) (hQ _ h)
        replace h := h.1 hb3
        refine Wl.guardF rfl rfl hb3 rfl ?_
        refine wZ rg (o_pickT rfl hb3 (v := .bool true) rfl (mvZ (.bool true) rfl ?_))
        refine Wl.guardF rfl rfl rfl rfl ?_
        refine Wl.guardF rfl rfl rfl rfl ?_
        refine wZ rg (o_pickT rfl rfl (v := .bool true) rfl (mvZ (.bool true) rfl ?_))
        refine Wl.guardF rfl rfl rfl rfl ?_
        refine Wl.guardF rfl rfl rfl rfl ?_
        refine wZ rg (o_pickT rfl rfl (v := .bool true) rfl (mvZ (.bool true) rfl ?_))
        refine Wl.guardF rfl rfl rfl rfl ?_
        refine Wl.guardF rfl rfl rfl rfl ?_
        refine wZ rg (o_pickT rfl rfl (v := .bool true) rfl (mvZ (.bool true) rfl ?_))
        refine Wl.guardF rfl rfl rfl rfl ?_
        refine Wl.guardF rfl rfl rfl rfl ?_
        refine wZ rg (o_pickT rfl rfl (v := .bool true) rfl (mvZ (.bool true) rfl ?_))
        refine Wl.guardF rfl rfl rfl rfl ?_
        refine Wl.guardF rfl rfl rfl rfl ?_
        refine wZ rg (o_pickT rfl rfl (v := .bool true) rfl (mvZ (.bool true) rfl ?_))
        refine Wl.guardF rfl rfl rfl rfl ?_
        refine Wl.guardF rfl rfl rfl rfl ?_
        refine wZ rg (o_pickT rfl rfl (v := .bool true) rfl (mvZ (.bool true) rfl ?_))
        refine Wl.guardF rfl rfl rfl rfl ?_
        refine Wl.guardF rfl rfl rfl rfl ?_
        refine wZ rg (o_pickT rfl rfl (v := .bool true) rfl (mvZ (.bool true) rfl ?_))
        refine Wl.guardF rfl rfl rfl rfl ?_
        refine Wl.guardF rfl rfl rfl rfl ?_
        refine wZ rg (o_pickT rfl rfl (v := .bool true) rfl (nZ ?_))
        refine Vc.cond' rfl (fun _ => ?_) (fun hb => Bool.noConfusion hb)
        refine qZ (rZ (asZ (.bool false) rfl (nZ ?_)))
        refine Vc.ret' ?_
        refine res_tmp (v := .bool false) rfl (res_nil ?_)
        show Gives _ (.bool false) _
        exact gives_out hrg (VW.refl _) (hQ _ h)
      replace h := h.1 hb2
      refine Wl.guardF rfl rfl hb2 rfl ?_
      refine wZ rg (o_pickT rfl hb2 (v := .bool true) rfl (mvZ (.bool true) rfl ?_))
      refine Wl.guardF rfl rfl rfl rfl ?_
      refine Wl.guardF rfl rfl rfl rfl ?_
      refine wZ rg (o_pickT rfl rfl (v := .bool true) rfl (mvZ (.bool true) rfl ?_))
      refine Wl.guardF rfl rfl rfl rfl ?_
      refine Wl.guardF rfl rfl rfl rfl ?_
      refine wZ rg (o_pickT rfl rfl (v := .bool true) rfl (mvZ (.bool true) rfl ?_))
      refine Wl.guardF rfl rfl rfl rfl ?_
      refine Wl.guardF rfl rfl rfl rfl ?_
      refine wZ rg (o_pickT rfl rfl (v := .bool true) rfl (mvZ (.bool true) rfl ?_))
      refine Wl.guardF rfl rfl rfl rfl ?_
      refine Wl.guardF rfl rfl rfl rfl ?_
      refine wZ rg (o_pickT rfl rfl (v := .bool true) rfl (mvZ (.bool true) rfl ?_))
      refine Wl.guardF rfl rfl rfl rfl ?_
      refine Wl.guardF rfl rfl rfl rfl ?_
      refine wZ rg (o_pickT rfl rfl (v := .bool true) rfl (mvZ (.bool true) rfl ?_))
      refine Wl.guardF rfl rfl rfl rfl ?_
      refine Wl.guardF rfl rfl rfl rfl ?_
      refine wZ rg (o_pickT rfl rfl (v := .bool true) rfl (mvZ (.bool true) rfl ?_))
      refine Wl.guardF rfl rfl rfl rfl ?_
      refine Wl.guardF rfl rfl rfl rfl ?_
      refine wZ rg (o_pickT rfl rfl (v := .bool true) rfl (mvZ (.bool true) rfl ?_))
      refine Wl.guardF rfl rfl rfl rfl ?_
      refine Wl.guardF rfl rfl rfl rfl ?_
      refine wZ rg (o_pickT rfl rfl (v := .bool true) rfl (mvZ (.bool true) rfl ?_))
      refine Wl.guardF rfl rfl rfl rfl ?_
      refine Wl.guardF rfl rfl rfl rfl ?_
      refine wZ rg (o_pickT rfl rfl (v := .bool true) rfl (nZ ?_))
      refine Vc.cond' rfl (fun _ => ?_) (fun hb => Bool.noConfusion hb)
      refine qZ (rZ (asZ (.bool false) rfl (nZ ?_)))
      refine Vc.ret' ?_
      refine res_tmp (v := .bool false) rfl (res_nil ?_)
      show Gives _ (.bool false) _
      exact gives_out hrg (VW.refl _) (hQ _ h)
    replace h := h.1 hb1
    refine Wl.guardF rfl rfl hb1 rfl ?_
    refine wZ rg (o_pickT rfl hb1 (v := .bool true) rfl (mvZ (.bool true) rfl ?_))
    refine Wl.guardF rfl rfl rfl rfl ?_
    refine Wl.guardF rfl rfl rfl rfl ?_
    refine wZ rg (o_pickT rfl rfl (v := .bool true) rfl (mvZ (.bool true) rfl ?_))
    refine Wl.guardF rfl rfl rfl rfl ?_
    refine Wl.guardF rfl rfl rfl rfl ?_
    refine wZ rg (o_pickT rfl rfl (v := .bool true) rfl (mvZ (.bool true) rfl ?_))
    refine Wl.guardF rfl rfl rfl rfl ?_
    refine Wl.guardF rfl rfl rfl rfl ?_
    refine wZ rg (o_pickT rfl rfl (v := .bool true) rfl (mvZ (.bool true) rfl ?_))
    refine Wl.guardF rfl rfl rfl rfl ?_
    refine Wl.guardF rfl rfl rfl rfl ?_
    refine wZ rg (o_pickT rfl rfl (v := .bool true) rfl (mvZ (.bool true) rfl ?_))
    refine Wl.guardF rfl rfl rfl rfl ?_
    refine Wl.guardF rfl rfl rfl rfl ?_
    refine wZ rg (o_pickT rfl rfl (v := .bool true) rfl (mvZ (.bool true) rfl ?_))
    refine Wl.guardF rfl rfl rfl rfl ?_
    refine Wl.guardF rfl rfl rfl rfl ?_
    refine wZ rg (o_pickT rfl rfl (v := .bool true) rfl (mvZ (.bool true) rfl ?_))
    refine Wl.guardF rfl rfl rfl rfl ?_
    refine Wl.guardF rfl rfl rfl rfl ?_
    refine wZ rg (o_pickT rfl rfl (v := .bool true) rfl (mvZ (.bool true) rfl ?_))
    refine Wl.guardF rfl rfl rfl rfl ?_
    refine Wl.guardF rfl rfl rfl rfl ?_
    refine wZ rg (o_pickT rfl rfl (v := .bool true) rfl (mvZ (.bool true) rfl ?_))
    refine Wl.guardF rfl rfl rfl rfl ?_
    refine Wl.guardF rfl rfl rfl rfl ?_
    refine wZ rg (o_pickT rfl rfl (v := .bool true) rfl (mvZ (.bool true) rfl ?_))
    refine Wl.guardF rfl rfl rfl rfl ?_
    refine Wl.guardF rfl rfl rfl rfl ?_
    refine wZ rg (o_pickT rfl rfl (v := .bool true) rfl (nZ ?_))
    refine Vc.cond' rfl (fun _ => ?_) (fun hb => Bool.noConfusion hb)
    refine qZ (rZ (asZ (.bool false) rfl (nZ ?_)))
    refine Vc.ret' ?_
    refine res_tmp (v := .bool false) rfl (res_nil ?_)
    show Gives _ (.bool false) _
    exact gives_out hrg (VW.refl _) (hQ _ h)
  refine rZ ?_
  refine wZ rg (o_call (us := []) rfl (vn) (law16_awake_ctr h fun r29 h => (wZ rg (o_not rfl (mvZ (.bool (!r29)) rfl ?_)))))
  refine Wl.guard rfl rfl (fun hb18 => ?_) (fun hb18 => ?_)
  · replace h := h.2 hb18
    refine wZ rg (o_loadBA (atL (k := 3) rfl) sz25 (by decide) ag25 rfl rfl (v := eDiagram a) rfl ?_)
    refine Wl.guardT rfl rfl hb18 ?_
    refine wZ rg (o_loadBA (atL (k := 4) rfl) sz25 (by decide) ag25 rfl rfl (v := eDiagram b) rfl ?_)
    refine Wl.guardT rfl rfl hb18 ?_
    refine wZ rg (o_loadBA (atL (k := 5) rfl) sz25 (by decide) ag25 rfl rfl (v := eDiagram c) rfl ?_)
    refine Wl.guardT rfl rfl hb18 ?_
    refine wZ rg (o_bslice td142 ok25 zav25 (es := [eDiagram a, eDiagram b, eDiagram c]) rfl (kk := 3) rfl rfl rfl rfl rfl rfl (fun g19 => ?_))
    refine Wl.guardT rfl rfl hb18 ?_
    refine Wl.wk (canon_freeze (k := 37) (xs := List.map eDiagram [a, b, c]) rfl (es := [(3, .ptr rg 3 g1 0 0), (4, .ptr rg 4 g2 0 0), (5, .ptr rg 5 g3 0 0), (33, .bool (!r29)), (37, eL eDiagram [a, b, c])]) (fc vr (fc vr (fc vr (fc vr (fc (frz_full rfl) (fn)))))) (m := [(3, .arr 3 [eDiagram a], g1), (4, .arr 3 [eDiagram b], g2), (5, .arr 3 [eDiagram c], g3)]) (sc rfl (sc rfl (sc rfl (sn))))) ?_
    refine wZ rg (o_call (us := [eL eDiagram [a, b, c]]) rfl (vl' vr (vn)) (law16_valid_ctr h fun r30 h => ?_))
    refine Wl.guardT rfl rfl hb18 ?_
    refine wZ rg (o_not rfl (wZ rg (o_pickF rfl hb18 (v := .bool (!r30)) rfl (nZ ?_))))
    exact ⟨((!r30), (g1, g2, g3)), (canon (fc vr (fc vr (fc vr (fc vr (fn))))) (sc rfl (sc rfl (sc rfl (sn))))), h⟩
  replace h := h.1 hb18
  refine Wl.guardF rfl rfl hb18 rfl ?_
  refine Wl.guardF rfl rfl hb18 rfl ?_
  refine Wl.guardF rfl rfl hb18 rfl ?_
  refine Wl.guardF rfl rfl hb18 rfl ?_
  refine Wl.guardF rfl rfl hb18 rfl ?_
  refine wZ rg (o_pickT rfl hb18 (v := .bool true) rfl (nZ ?_))
  exact ⟨(true, (g1, g2, g3)), (canon (fc vr (fc vr (fc vr (fc vr (fn))))) (sc rfl (sc rfl (sc rfl (sn))))), h⟩
end Go.Proofs.Ytllegjdggcmgaaa
