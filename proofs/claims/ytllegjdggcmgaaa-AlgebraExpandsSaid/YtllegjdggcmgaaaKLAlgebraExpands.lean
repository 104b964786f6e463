/- Walks of functions. Conditions: none. -/
import Derived.Test.YtllegjdggcmgaaaWa
import Derived.Test.YtllegjdggcmgaaaGgTy
import Derived.Test.YtllegjdggcmgaaaK1
import Derived.Test.YtllegjdggcmgaaaK3
import Derived.Test.YtllegjdggcmgaaaK4
import Derived.Test.YtllegjdggcmgaaaK7
import Derived.Test.YtllegjdggcmgaaaK12
/- Walks of functions. Conditions: none. -/
namespace Go.Proofs.Ytllegjdggcmgaaa
open Go.Gg
set_option maxRecDepth 100000
set_option maxHeartbeats 4000000 in
theorem law16_AlgebraExpands_ctr {d : GDiagram} {i : Int} {Q : Bool → Prop} {S : St} {R : AV → St → Prop} (h : law16_AlgebraExpands_W d i Q) (hQ : ∀ r1, Q r1 → R (AV.bool r1) S) :
    Ctr Try.prog 10 [eDiagram d, AV.int .i64 i] S R := by
  unfold law16_AlgebraExpands_W at h
  refine enterT Try.func10 rfl Try.ntmps10 Try.results10 (by kernel_rfl) (fun rg hrg => ?_)
  refine qZ (rZ (wZ rg (o_box (v := eDiagram d) rfl rfl (kk := 3) rfl (by decide) (fun g1 => (asZ (.bool false) rfl (nZ (qZ ?_)))))))
  obtain ⟨J, h, hJ⟩ := h
  refine Vc.join' (σ := ((Bool) × (Nat))) (fun y => J y.1) (fun y => envOf [(1, .int .i64 i), (2, .ptr rg 2 y.2 0 0), (41, .bool y.1)]) (fun y => stL S rg [(2, .arr 3 [eDiagram d], y.2)]) (fun y h => ?_) ?_
  · obtain ⟨x, g2⟩ := y
    replace h := hJ x h
    show Vc _ _ _ _ (envOf [(1, .int .i64 i), (2, .ptr rg 2 g2 0 0), (41, .bool x)]) (stL S rg [(2, .arr 3 [eDiagram d], g2)])
    refine Vc.cond' rfl (fun hb => ?_) (fun hb => ?_)
    · replace h := h.1 hb
      refine qZ (rZ (wZ rg (o_call (us := []) rfl (vn) (law16_awake_ctr h fun r h => (asZ (.bool r) rfl (nZ ?_))))))
      refine Vc.ret' ?_
      refine res_tmp (v := .bool r) rfl (res_nil ?_)
      show Gives _ (.bool r) _
      exact gives_out hrg (VW.refl _) (hQ _ h)
    replace h := h.2 hb
    refine Vc.skip' ?_
    refine qZ (rZ (mvZ (.int .i64 i) rfl (wZ rg (o_faP td25 rfl rfl (by rw [sz22]; decide) rfl (wZ rg (o_loadB1 (atL (k := 2) rfl) sz22 ag22 rfl rfl (v := eL (AV.int .i64) d.Order) rfl (wZ rg (o_call (us := [AV.int .i64 i, eL (AV.int .i64) d.Order]) rfl (vl' vr (vl' vr (vn))) (diagram_Event_ctr h fun r1 r2 h => (mvZ (.tuple [eDiagram r1, eErr 83 r2]) rfl ?_))))))))))
    refine wZ rg (o_extract (v := eDiagram r1) rfl rfl rfl (wZ rg (o_extract (v := eErr 83 r2) rfl rfl rfl (wZ rg (o_alloc zav25 ok25 (kk := 3) rfl (fun g3 => (wZ rg (o_storeB (atL (k := 5) rfl) sz25 (by decide) rfl (w := eDiagram r1) rfl rfl rfl (v := eDiagram r1) rfl setL (asZ (eErr 83 r2) rfl (nZ (qZ (rZ (wZ rg (o_loadBA (atL (k := 2) rfl) sz25 (by decide) ag25 rfl rfl (v := eDiagram d) rfl ?_))))))))))))))
    refine mvZ (.int .i64 i) rfl (wZ rg (o_call (us := [eDiagram d, AV.int .i64 i, AV.bool true]) rfl (vl' vr (vl' vr (vl' vr (vn)))) (algebra_Restrict_ctr h fun r3 r4 h => (mvZ (.tuple [eDiagram r3, eErr 83 r4]) rfl (wZ rg (o_extract (v := eDiagram r3) rfl rfl rfl (wZ rg (o_extract (v := eErr 83 r4) rfl rfl rfl (wZ rg (o_alloc zav25 ok25 (kk := 3) rfl (fun g4 => ?_)))))))))))
    refine wZ rg (o_storeB (atL (k := 7) rfl) sz25 (by decide) rfl (w := eDiagram r3) rfl rfl rfl (v := eDiagram r3) rfl setL (asZ (eErr 83 r4) rfl (nZ (qZ (rZ (wZ rg (o_loadBA (atL (k := 2) rfl) sz25 (by decide) ag25 rfl rfl (v := eDiagram d) rfl (mvZ (.int .i64 i) rfl ?_))))))))
    refine wZ rg (o_call (us := [eDiagram d, AV.int .i64 i, AV.bool false]) rfl (vl' vr (vl' vr (vl' vr (vn)))) (algebra_Restrict_ctr h fun r5 r6 h => (mvZ (.tuple [eDiagram r5, eErr 83 r6]) rfl (wZ rg (o_extract (v := eDiagram r5) rfl rfl rfl (wZ rg (o_extract (v := eErr 83 r6) rfl rfl rfl (wZ rg (o_alloc zav25 ok25 (kk := 3) rfl (fun g5 => ?_))))))))))
    refine wZ rg (o_storeB (atL (k := 9) rfl) sz25 (by decide) rfl (w := eDiagram r5) rfl rfl rfl (v := eDiagram r5) rfl setL (asZ (eErr 83 r6) rfl (nZ (qZ (rZ (wZ rg (o_loadBA (atL (k := 5) rfl) sz25 (by decide) ag25 rfl rfl (v := eDiagram r1) rfl (wZ rg (o_loadBA (atL (k := 7) rfl) sz25 (by decide) ag25 rfl rfl (v := eDiagram r3) rfl ?_)))))))))
    refine wZ rg (o_loadBA (atL (k := 9) rfl) sz25 (by decide) ag25 rfl rfl (v := eDiagram r5) rfl (wZ rg (o_call (us := [eDiagram r1, eDiagram r3, eDiagram r5]) rfl (vl' vr (vl' vr (vl' vr (vn)))) (algebra_Choose_ctr h fun r7 r8 h => (mvZ (.tuple [eDiagram r7, eErr 83 r8]) rfl (wZ rg (o_extract (v := eDiagram r7) rfl rfl rfl (wZ rg (o_extract (v := eErr 83 r8) rfl rfl rfl ?_)))))))))
    refine wZ rg (o_alloc zav25 ok25 (kk := 3) rfl (fun g6 => (wZ rg (o_storeB (atL (k := 11) rfl) sz25 (by decide) rfl (w := eDiagram r7) rfl rfl rfl (v := eDiagram r7) rfl setL (asZ (eErr 83 r8) rfl (nZ (qZ ?_)))))))
    have hg := h.1
    replace h := h.2
    obtain ⟨r9, r10, hc, h⟩ := h
    refine Vc.drawn' mixed rg (usOf [(3, pc (.tuple [eDiagram r9, eErr 83 r10]))]) (by kernel_rfl) ?_
    refine dL (E := ([(rg, 2)], [])) rfl rfl (by simp) (cfn) (o_loadBA (atL (k := 2) rfl) sz25 (by decide) ag25 rfl rfl (v := eDiagram d) rfl (dP rfl rfl (o_move (v := .int .i64 i) rfl (dP rfl rfl (o_shlG rfl rfl hg ?_)))))
    refine dC (vs := [eDiagram d, AV.int .i64 (1 * 2 ^ (Int.toNat i))]) rfl (vl' vr (vl' vr (vn))) (fun _ => algebra_Exists_ctr hc (fun _ _ hr => ⟨by rw [hr.1, hr.2], rfl⟩)) rfl ?_
    refine dP rfl rfl (o_move (v := .tuple [eDiagram r9, eErr 83 r10]) rfl (dP rfl rfl (o_extract (v := eDiagram r9) rfl rfl rfl (dP rfl rfl (o_extract (v := eErr 83 r10) rfl rfl rfl (dL (E := ([], [(rg, 13)])) rfl rfl (by simp) (cfa (by simp [apartE]) (cfn)) (o_alloc zav25 ok25 (kk := 3) rfl (fun g7 => ?_))))))))
    refine dL (E := ([], [(rg, 13)])) rfl rfl (by simp) (cfo (by kernel_rfl) (cfo (by kernel_rfl) (cfn))) (o_storeB (atL (k := 13) rfl) sz25 (by decide) rfl (w := eDiagram r9) rfl rfl rfl (v := eDiagram r9) rfl setL (dP rfl rfl (o_assign (v := eErr 83 r10) rfl (dN (qZ ?_)))))
    have hg1 := h.1
    replace h := h.2
    obtain ⟨r11, r12, hc1, h⟩ := h
    refine Vc.drawn' mixed rg (usOf [(3, pc (.tuple [eDiagram r11, eErr 83 r12]))]) (by kernel_rfl) ?_
    refine dL (E := ([(rg, 2)], [])) rfl rfl (by simp) (cfn) (o_loadBA (atL (k := 2) rfl) sz25 (by decide) ag25 rfl rfl (v := eDiagram d) rfl (dP rfl rfl (o_move (v := .int .i64 i) rfl (dP rfl rfl (o_shlG rfl rfl hg1 ?_)))))
    refine dC (vs := [eDiagram d, AV.int .i64 (1 * 2 ^ (Int.toNat i))]) rfl (vl' vr (vl' vr (vn))) (fun _ => algebra_Forall_ctr hc1 (fun _ _ hr => ⟨by rw [hr.1, hr.2], rfl⟩)) rfl ?_
    refine dP rfl rfl (o_move (v := .tuple [eDiagram r11, eErr 83 r12]) rfl (dP rfl rfl (o_extract (v := eDiagram r11) rfl rfl rfl (dP rfl rfl (o_extract (v := eErr 83 r12) rfl rfl rfl (dL (E := ([], [(rg, 15)])) rfl rfl (by simp) (cfa (by simp [apartE]) (cfn)) (o_alloc zav25 ok25 (kk := 3) rfl (fun g8 => ?_))))))))
    refine dL (E := ([], [(rg, 15)])) rfl rfl (by simp) (cfo (by kernel_rfl) (cfo (by kernel_rfl) (cfn))) (o_storeB (atL (k := 15) rfl) sz25 (by decide) rfl (w := eDiagram r11) rfl rfl rfl (v := eDiagram r11) rfl setL (dP rfl rfl (o_assign (v := eErr 83 r12) rfl (dN (qZ (rZ (wZ rg (o_loadBA (atL (k := 7) rfl) sz25 (by decide) ag25 rfl rfl (v := eDiagram r3) rfl ?_))))))))
    refine wZ rg (o_loadBA (atL (k := 9) rfl) sz25 (by decide) ag25 rfl rfl (v := eDiagram r5) rfl (wZ rg (o_call (us := [eDiagram r3, eDiagram r5]) rfl (vl' vr (vl' vr (vn))) (algebra_Or_ctr h fun r13 r14 h => (mvZ (.tuple [eDiagram r13, eErr 83 r14]) rfl (wZ rg (o_extract (v := eDiagram r13) rfl rfl rfl (wZ rg (o_extract (v := eErr 83 r14) rfl rfl rfl ?_)))))))))
    refine wZ rg (o_alloc zav25 ok25 (kk := 3) rfl (fun g9 => (wZ rg (o_storeB (atL (k := 17) rfl) sz25 (by decide) rfl (w := eDiagram r13) rfl rfl rfl (v := eDiagram r13) rfl setL (asZ (eErr 83 r14) rfl (nZ (qZ (rZ (wZ rg (o_loadBA (atL (k := 7) rfl) sz25 (by decide) ag25 rfl rfl (v := eDiagram r3) rfl (wZ rg (o_loadBA (atL (k := 9) rfl) sz25 (by decide) ag25 rfl rfl (v := eDiagram r5) rfl ?_))))))))))))
    refine wZ rg (o_call (us := [eDiagram r3, eDiagram r5]) rfl (vl' vr (vl' vr (vn))) (algebra_And_ctr h fun r15 r16 h => (mvZ (.tuple [eDiagram r15, eErr 83 r16]) rfl (wZ rg (o_extract (v := eDiagram r15) rfl rfl rfl (wZ rg (o_extract (v := eErr 83 r16) rfl rfl rfl (wZ rg (o_alloc zav25 ok25 (kk := 3) rfl (fun g10 => ?_))))))))))
    refine wZ rg (o_storeB (atL (k := 19) rfl) sz25 (by decide) rfl (w := eDiagram r15) rfl rfl rfl (v := eDiagram r15) rfl setL (asZ (eErr 83 r16) rfl (nZ (qZ (rZ (wZ rg (o_loadBA (atL (k := 2) rfl) sz25 (by decide) ag25 rfl rfl (v := eDiagram d) rfl (mvZ (.int .i64 i) rfl (wZ rg (o_loadBA (atL (k := 5) rfl) sz25 (by decide) ag25 rfl rfl (v := eDiagram r1) rfl ?_))))))))))
    refine wZ rg (o_call (us := [eDiagram d, AV.int .i64 i, eDiagram r1]) rfl (vl' vr (vl' vr (vl' vr (vn)))) (algebra_Compose_ctr h fun r17 r18 h => (mvZ (.tuple [eDiagram r17, eErr 83 r18]) rfl (wZ rg (o_extract (v := eDiagram r17) rfl rfl rfl (wZ rg (o_extract (v := eErr 83 r18) rfl rfl rfl (wZ rg (o_alloc zav25 ok25 (kk := 3) rfl (fun g11 => ?_))))))))))
    refine wZ rg (o_storeB (atL (k := 21) rfl) sz25 (by decide) rfl (w := eDiagram r17) rfl rfl rfl (v := eDiagram r17) rfl setL (asZ (eErr 83 r18) rfl (nZ (qZ (qZ (rZ (mvZ (eErr 83 r2) rfl (wZ rg (o_isnon td29 (E := 83) rfl rfl rfl (mvZ (.bool (Option.isSome r2)) rfl ?_))))))))))
    refine Wl.guard rfl rfl (fun hb1 => ?_) (fun hb1 => ?_)
    · replace h := h.2 hb1
      refine mvZ (eErr 83 r4) rfl ?_
      refine Wl.guardT rfl rfl hb1 ?_
      refine wZ rg (o_isnon td29 (E := 83) rfl rfl rfl (wZ rg (o_pickF rfl hb1 (v := .bool (Option.isSome r4)) rfl (mvZ (.bool (Option.isSome r4)) rfl ?_))))
      refine Wl.guard rfl rfl (fun hb2 => ?_) (fun hb2 => ?_)
      · replace h := h.2 hb2
        refine mvZ (eErr 83 r6) rfl ?_
        refine Wl.guardT rfl rfl hb2 ?_
        refine wZ rg (o_isnon td29 (E := 83) rfl rfl rfl (wZ rg (o_pickF rfl hb2 (v := .bool (Option.isSome r6)) rfl (mvZ (.bool (Option.isSome r6)) rfl ?_))))
        refine Wl.guard rfl rfl (fun hb3 => ?_) (fun hb3 => ?_)
        · replace h := h.2 hb3
          refine mvZ (eErr 83 r8) rfl ?_
          refine Wl.guardT rfl rfl hb3 ?_
          refine wZ rg (o_isnon td29 (E := 83) rfl rfl rfl (wZ rg (o_pickF rfl hb3 (v := .bool (Option.isSome r8)) rfl (mvZ (.bool (Option.isSome r8)) rfl ?_))))
          refine Wl.guard rfl rfl (fun hb4 => ?_) (fun hb4 => ?_)
          · replace h := h.2 hb4
            refine mvZ (eErr 83 r10) rfl ?_
            refine Wl.guardT rfl rfl hb4 ?_
            refine wZ rg (o_isnon td29 (E := 83) rfl rfl rfl (wZ rg (o_pickF rfl hb4 (v := .bool (Option.isSome r10)) rfl (mvZ (.bool (Option.isSome r10)) rfl ?_))))
            refine Wl.guard rfl rfl (fun hb5 => ?_) (fun hb5 => ?_)
            · replace h := h.2 hb5
              refine mvZ (eErr 83 r12) rfl ?_
              refine Wl.guardT rfl rfl hb5 ?_
              refine wZ rg (o_isnon td29 (E := 83) rfl rfl rfl (wZ rg (o_pickF rfl hb5 (v := .bool (Option.isSome r12)) rfl (mvZ (.bool (Option.isSome r12)) rfl ?_))))
              refine Wl.guard rfl rfl (fun hb6 => ?_) (fun hb6 => ?_)
              · replace h := h.2 hb6
                refine mvZ (eErr 83 r14) rfl ?_
                refine Wl.guardT rfl rfl hb6 ?_
                refine wZ rg (o_isnon td29 (E := 83) rfl rfl rfl (wZ rg (o_pickF rfl hb6 (v := .bool (Option.isSome r14)) rfl (mvZ (.bool (Option.isSome r14)) rfl ?_))))
                refine Wl.guard rfl rfl (fun hb7 => ?_) (fun hb7 => ?_)
                · replace h := h.2 hb7
                  refine mvZ (eErr 83 r16) rfl ?_
                  refine Wl.guardT rfl rfl hb7 ?_
                  refine wZ rg (o_isnon td29 (E := 83) rfl rfl rfl (wZ rg (o_pickF rfl hb7 (v := .bool (Option.isSome r16)) rfl (mvZ (.bool (Option.isSome r16)) rfl ?_))))
                  refine Wl.guard rfl rfl (fun hb8 => ?_) (fun hb8 => ?_)
                  · replace h := h.2 hb8
                    refine mvZ (eErr 83 r18) rfl ?_
                    refine Wl.guardT rfl rfl hb8 ?_
                    refine wZ rg (o_isnon td29 (E := 83) rfl rfl rfl (wZ rg (o_pickF rfl hb8 (v := .bool (Option.isSome r18)) rfl (nZ ?_))))
                    refine Vc.cond' rfl (fun hb9 => ?_) (fun hb9 => ?_)
                    · replace h := h.1 hb9
                      refine qZ (rZ (asZ (.bool false) rfl (nZ ?_)))
                      refine Vc.ret' ?_
                      refine res_tmp (v := .bool false) rfl (res_nil ?_)
                      show Gives _ (.bool false) _
                      exact gives_out hrg (VW.refl _) (hQ _ h)
                    replace h := h.2 hb9
                    refine Vc.skip' ?_
                    refine qZ (rZ (wZ rg (o_loadBA (atL (k := 11) rfl) sz25 (by decide) ag25 rfl rfl (v := eDiagram r7) rfl (wZ rg (o_loadBA (atL (k := 2) rfl) sz25 (by decide) ag25 rfl rfl (v := eDiagram d) rfl (wZ rg (o_call (us := [eDiagram r7, eDiagram d]) rfl (vl' vr (vl' vr (vn))) (base_Diagram_ctr h fun r19 h => (mvZ (.bool r19) rfl ?_)))))))))
                    refine Wl.guard rfl rfl (fun hb10 => ?_) (fun hb10 => ?_)
                    · replace h := h.1 hb10
                      refine wZ rg (o_loadBA (atL (k := 13) rfl) sz25 (by decide) ag25 rfl rfl (v := eDiagram r9) rfl ?_)
                      refine Wl.guardT rfl rfl hb10 ?_
                      refine wZ rg (o_loadBA (atL (k := 17) rfl) sz25 (by decide) ag25 rfl rfl (v := eDiagram r13) rfl ?_)
                      refine Wl.guardT rfl rfl hb10 ?_
                      refine wZ rg (o_call (us := [eDiagram r9, eDiagram r13]) rfl (vl' vr (vl' vr (vn))) (base_Diagram_ctr h fun r20 h => (wZ rg (o_pickT rfl hb10 (v := .bool r20) rfl (mvZ (.bool r20) rfl ?_)))))
                      refine Wl.guard rfl rfl (fun hb11 => ?_) (fun hb11 => ?_)
                      · replace h := h.1 hb11
                        refine wZ rg (o_loadBA (atL (k := 15) rfl) sz25 (by decide) ag25 rfl rfl (v := eDiagram r11) rfl ?_)
                        refine Wl.guardT rfl rfl hb11 ?_
                        refine wZ rg (o_loadBA (atL (k := 19) rfl) sz25 (by decide) ag25 rfl rfl (v := eDiagram r15) rfl ?_)
                        refine Wl.guardT rfl rfl hb11 ?_
                        refine wZ rg (o_call (us := [eDiagram r11, eDiagram r15]) rfl (vl' vr (vl' vr (vn))) (base_Diagram_ctr h fun r21 h => (wZ rg (o_pickT rfl hb11 (v := .bool r21) rfl (mvZ (.bool r21) rfl ?_)))))
                        refine Wl.guard rfl rfl (fun hb12 => ?_) (fun hb12 => ?_)
                        · replace h := h.1 hb12
                          refine wZ rg (o_loadBA (atL (k := 21) rfl) sz25 (by decide) ag25 rfl rfl (v := eDiagram r17) rfl ?_)
                          refine Wl.guardT rfl rfl hb12 ?_
                          refine wZ rg (o_loadBA (atL (k := 2) rfl) sz25 (by decide) ag25 rfl rfl (v := eDiagram d) rfl ?_)
                          refine Wl.guardT rfl rfl hb12 ?_
                          refine wZ rg (o_call (us := [eDiagram r17, eDiagram d]) rfl (vl' vr (vl' vr (vn))) (base_Diagram_ctr h fun r22 h => (wZ rg (o_pickT rfl hb12 (v := .bool r22) rfl (asZ (.bool r22) rfl (nZ ?_))))))
                          refine Vc.ret' ?_
                          refine res_tmp (v := .bool r22) rfl (res_nil ?_)
                          show Gives _ (.bool r22) _
                          exact gives_out hrg (VW.refl _) (hQ _ h)
                        replace h := h.2 hb12
                        refine Wl.guardF rfl rfl hb12 rfl ?_
                        refine Wl.guardF rfl rfl hb12 rfl ?_
                        refine wZ rg (o_pickF rfl hb12 (v := .bool false) rfl (asZ (.bool false) rfl (nZ ?_)))
                        refine Vc.ret' ?_
                        refine res_tmp (v := .bool false) rfl (res_nil ?_)
                        show Gives _ (.bool false) _
                        exact gives_out hrg (VW.refl _) (hQ _ h)
                      replace h := h.2 hb11
                      refine Wl.guardF rfl rfl hb11 rfl ?_
                      refine Wl.guardF rfl rfl hb11 rfl ?_
                      refine wZ rg (o_pickF rfl hb11 (v := .bool false) rfl (mvZ (.bool false) rfl ?_))
                      refine Wl.guardF rfl rfl rfl rfl ?_
                      refine Wl.guardF rfl rfl rfl rfl ?_
                      refine Wl.guardF rfl rfl rfl rfl ?_
                      refine wZ rg (o_pickF rfl rfl (v := .bool false) rfl (asZ (.bool false) rfl (nZ ?_)))
                      refine Vc.ret' ?_
                      refine res_tmp (v := .bool false) rfl (res_nil ?_)
                      show Gives _ (.bool false) _
                      exact gives_out hrg (VW.refl _) (hQ _ h)
                    replace h := h.2 hb10
                    refine Wl.guardF rfl rfl hb10 rfl ?_
                    refine Wl.guardF rfl rfl hb10 rfl ?_
                    refine wZ rg (o_pickF rfl hb10 (v := .bool false) rfl (mvZ (.bool false) rfl ?_))
                    refine Wl.guardF rfl rfl rfl rfl ?_
                    refine Wl.guardF rfl rfl rfl rfl ?_
                    refine Wl.guardF rfl rfl rfl rfl ?_
                    refine wZ rg (o_pickF rfl rfl (v := .bool false) rfl (mvZ (.bool false) rfl ?_))
                    refine Wl.guardF rfl rfl rfl rfl ?_
                    refine Wl.guardF rfl rfl rfl rfl ?_
                    refine Wl.guardF rfl rfl rfl rfl ?_
                    refine wZ rg (o_pickF rfl rfl (v := .bool false) rfl (asZ (.bool false) rfl (nZ ?_)))
                    refine Vc.ret' ?_
                    refine res_tmp (v := .bool false) rfl (res_nil ?_)
                    show Gives _ (.bool false) _
                    exact gives_out hrg (VW.refl _) (hQ _ h)
                  replace h := h.1 hb8
                  refine Wl.guardF rfl rfl hb8 rfl ?_
                  refine wZ rg (o_pickT rfl hb8 (v := .bool true) rfl (nZ ?_))
                  refine Vc.cond' rfl (fun _ => ?_) (fun hb => Bool.noConfusion hb)
                  refine qZ (rZ (asZ (.bool false) rfl (nZ ?_)))
                  refine Vc.ret' ?_
                  refine res_tmp (v := .bool false) rfl (res_nil ?_)
                  show Gives _ (.bool false) _
                  exact gives_out hrg (VW.refl _) (hQ _ h)
                replace h := h.1 hb7
                refine Wl.guardF rfl rfl hb7 rfl ?_
                refine wZ rg (o_pickT rfl hb7 (v := .bool true) rfl (mvZ (.bool true) rfl ?_))
                refine Wl.guardF rfl rfl rfl rfl ?_
                refine Wl.guardF rfl rfl rfl rfl ?_
                refine wZ rg (o_pickT rfl rfl (v := .bool true) rfl (nZ ?_))
                refine Vc.cond' rfl (fun _ => ?_) (fun hb => Bool.noConfusion hb)
                refine qZ (rZ (asZ (.bool false) rfl (nZ ?_)))
                refine Vc.ret' ?_
                refine res_tmp (v := .bool false) rfl (res_nil ?_)
                show Gives _ (.bool false) _
                exact gives_out hrg (VW.refl _) (hQ _ h)
              replace h := h.1 hb6
              refine Wl.guardF rfl rfl hb6 rfl ?_
              refine wZ rg (o_pickT rfl hb6 (v := .bool true) rfl (mvZ (.bool true) rfl ?_))
              refine Wl.guardF rfl rfl rfl rfl ?_
              refine Wl.guardF rfl rfl rfl rfl ?_
              refine wZ rg (o_pickT rfl rfl (v := .bool true) rfl (mvZ (.bool true) rfl ?_))
              refine Wl.guardF rfl rfl rfl rfl ?_
              refine Wl.guardF rfl rfl rfl rfl ?_
              refine wZ rg (o_pickT rfl rfl (v := .bool true) rfl (nZ ?_))
              refine Vc.cond' rfl (fun _ => ?_) (fun hb => Bool.noConfusion hb)
              refine qZ (rZ (asZ (.bool false) rfl (nZ ?_)))
              refine Vc.ret' ?_
              refine res_tmp (v := .bool false) rfl (res_nil ?_)
              show Gives _ (.bool false) _
              exact gives_out hrg (VW.refl _) (hQ _ h)
            replace h := h.1 hb5
            refine Wl.guardF rfl rfl hb5 rfl ?_
            refine wZ rg (o_pickT rfl hb5 (v := .bool true) rfl (mvZ (.bool true) rfl ?_))
            refine Wl.guardF rfl rfl rfl rfl ?_
            refine Wl.guardF rfl rfl rfl rfl ?_
            refine wZ rg (o_pickT rfl rfl (v := .bool true) rfl (mvZ (.bool true) rfl ?_))
            refine Wl.guardF rfl rfl rfl rfl ?_
            refine Wl.guardF rfl rfl rfl rfl ?_
            refine wZ rg (o_pickT rfl rfl (v := .bool true) rfl (mvZ (.bool true) rfl ?_))
            refine Wl.guardF rfl rfl rfl rfl ?_
            refine Wl.guardF rfl rfl rfl rfl ?_
            refine wZ rg (o_pickT rfl rfl (v := .bool true) rfl (nZ ?_))
            refine Vc.cond' rfl (fun _ => ?_) (fun hb => Bool.noConfusion hb)
            refine qZ (rZ (asZ (.bool false) rfl (nZ ?_)))
            refine Vc.ret' ?_
            refine res_tmp (v := .bool false) rfl (res_nil ?_)
            show Gives _ (.bool false) _
            exact gives_out hrg (VW.refl _) (hQ _ h)
          replace h := h.1 hb4
          refine Wl.guardF rfl rfl hb4 rfl ?_
          refine wZ rg (o_pickT rfl hb4 (v := .bool true) rfl (mvZ (.bool true) rfl ?_))
          refine Wl.guardF rfl rfl rfl rfl ?_
          refine Wl.guardF rfl rfl rfl rfl ?_
          refine wZ rg (o_pickT rfl rfl (v := .bool true) rfl (mvZ (.bool true) rfl ?_))
          refine Wl.guardF rfl rfl rfl rfl ?_
          refine Wl.guardF rfl rfl rfl rfl ?_
          refine wZ rg (o_pickT rfl rfl (v := .bool true) rfl (mvZ (.bool true) rfl ?_))
          refine Wl.guardF rfl rfl rfl rfl ?_
          refine Wl.guardF rfl rfl rfl rfl ?_
          refine wZ rg (o_pickT rfl rfl (v := .bool true) rfl (mvZ (.bool true) rfl ?_))
          refine Wl.guardF rfl rfl rfl rfl ?_
          refine Wl.guardF rfl rfl rfl rfl ?_
          refine wZ rg (o_pickT rfl rfl (v := .bool true) rfl (nZ ?_))
          refine Vc.cond' rfl (fun _ => ?_) (fun hb => Bool.noConfusion hb)
          refine qZ (rZ (asZ (.bool false) rfl (nZ ?_)))
          refine Vc.ret' ?_
          refine res_tmp (v := .bool false) rfl (res_nil ?_)
          show Gives _ (.bool false) _
          exact gives_out hrg (VW.refl _) (hQ _ h)
        replace h := h.1 hb3
        refine Wl.guardF rfl rfl hb3 rfl ?_
        refine wZ rg (o_pickT rfl hb3 (v := .bool true) rfl (mvZ (.bool true) rfl ?_))
        refine Wl.guardF rfl rfl rfl rfl ?_
        refine Wl.guardF rfl rfl rfl rfl ?_
        refine wZ rg (o_pickT rfl rfl (v := .bool true) rfl (mvZ (.bool true) rfl ?_))
        refine Wl.guardF rfl rfl rfl rfl ?_
        refine Wl.guardF rfl rfl rfl rfl ?_
        refine wZ rg (o_pickT rfl rfl (v := .bool true) rfl (mvZ (.bool true) rfl ?_))
        refine Wl.guardF rfl rfl rfl rfl ?_
        refine Wl.guardF rfl rfl rfl rfl ?_
        refine wZ rg (o_pickT rfl rfl (v := .bool true) rfl (mvZ (.bool true) rfl ?_))
        refine Wl.guardF rfl rfl rfl rfl ?_
        refine Wl.guardF rfl rfl rfl rfl ?_
        refine wZ rg (o_pickT rfl rfl (v := .bool true) rfl (mvZ (.bool true) rfl ?_))
        refine Wl.guardF rfl rfl rfl rfl ?_
        refine Wl.guardF rfl rfl rfl rfl ?_
        refine wZ rg (o_pickT rfl rfl (v := .bool true) rfl (nZ ?_))
        refine Vc.cond' rfl (fun _ => ?_) (fun hb => Bool.noConfusion hb)
        refine qZ (rZ (asZ (.bool false) rfl (nZ ?_)))
        refine Vc.ret' ?_
        refine res_tmp (v := .bool false) rfl (res_nil ?_)
        show Gives _ (.bool false) _
        exact gives_out hrg (VW.refl _) (hQ _ h)
      replace h := h.1 hb2
      refine Wl.guardF rfl rfl hb2 rfl ?_
      refine wZ rg (o_pickT rfl hb2 (v := .bool true) rfl (mvZ (.bool true) rfl ?_))
      refine Wl.guardF rfl rfl rfl rfl ?_
      refine Wl.guardF rfl rfl rfl rfl ?_
      refine wZ rg (o_pickT rfl rfl (v := .bool true) rfl (mvZ (.bool true) rfl ?_))
      refine Wl.guardF rfl rfl rfl rfl ?_
      refine Wl.guardF rfl rfl rfl rfl ?_
      refine wZ rg (o_pickT rfl rfl (v := .bool true) rfl (mvZ (.bool true) rfl ?_))
      refine Wl.guardF rfl rfl rfl rfl ?_
      refine Wl.guardF rfl rfl rfl rfl ?_
      refine wZ rg (o_pickT rfl rfl (v := .bool true) rfl (mvZ (.bool true) rfl ?_))
      refine Wl.guardF rfl rfl rfl rfl ?_
      refine Wl.guardF rfl rfl rfl rfl ?_
      refine wZ rg (o_pickT rfl rfl (v := .bool true) rfl (mvZ (.bool true) rfl ?_))
      refine Wl.guardF rfl rfl rfl rfl ?_
      refine Wl.guardF rfl rfl rfl rfl ?_
      refine wZ rg (o_pickT rfl rfl (v := .bool true) rfl (mvZ (.bool true) rfl ?_))
      refine Wl.guardF rfl rfl rfl rfl ?_
      refine Wl.guardF rfl rfl rfl rfl ?_
      refine wZ rg (o_pickT rfl rfl (v := .bool true) rfl (nZ ?_))
      refine Vc.cond' rfl (fun _ => ?_) (fun hb => Bool.noConfusion hb)
      refine qZ (rZ (asZ (.bool false) rfl (nZ ?_)))
      refine Vc.ret' ?_
      refine res_tmp (v := .bool false) rfl (res_nil ?_)
      show Gives _ (.bool false) _
      exact gives_out hrg (VW.refl _) (hQ _ h)
    replace h := h.1 hb1
    refine Wl.guardF rfl rfl hb1 rfl ?_
    refine wZ rg (o_pickT rfl hb1 (v := .bool true) rfl (mvZ (.bool true) rfl ?_))
    refine Wl.guardF rfl rfl rfl rfl ?_
    refine Wl.guardF rfl rfl rfl rfl ?_
    refine wZ rg (o_pickT rfl rfl (v := .bool true) rfl (mvZ (.bool true) rfl ?_))
    refine Wl.guardF rfl rfl rfl rfl ?_
    refine Wl.guardF rfl rfl rfl rfl ?_
    refine wZ rg (o_pickT rfl rfl (v := .bool true) rfl (mvZ (.bool true) rfl ?_))
    refine Wl.guardF rfl rfl rfl rfl ?_
    refine Wl.guardF rfl rfl rfl rfl ?_
    refine wZ rg (o_pickT rfl rfl (v := .bool true) rfl (mvZ (.bool true) rfl ?_))
    refine Wl.guardF rfl rfl rfl rfl ?_
    refine Wl.guardF rfl rfl rfl rfl ?_
    refine wZ rg (o_pickT rfl rfl (v := .bool true) rfl (mvZ (.bool true) rfl ?_))
    refine Wl.guardF rfl rfl rfl rfl ?_
    refine Wl.guardF rfl rfl rfl rfl ?_
    refine wZ rg (o_pickT rfl rfl (v := .bool true) rfl (mvZ (.bool true) rfl ?_))
    refine Wl.guardF rfl rfl rfl rfl ?_
    refine Wl.guardF rfl rfl rfl rfl ?_
    refine wZ rg (o_pickT rfl rfl (v := .bool true) rfl (mvZ (.bool true) rfl ?_))
    refine Wl.guardF rfl rfl rfl rfl ?_
    refine Wl.guardF rfl rfl rfl rfl ?_
    refine wZ rg (o_pickT rfl rfl (v := .bool true) rfl (nZ ?_))
    refine Vc.cond' rfl (fun _ => ?_) (fun hb => Bool.noConfusion hb)
    refine qZ (rZ (asZ (.bool false) rfl (nZ ?_)))
    refine Vc.ret' ?_
    refine res_tmp (v := .bool false) rfl (res_nil ?_)
    show Gives _ (.bool false) _
    exact gives_out hrg (VW.refl _) (hQ _ h)
  refine rZ ?_
  refine wZ rg (o_call (us := []) rfl (vn) (law16_awake_ctr h fun r23 h => (wZ rg (o_not rfl (mvZ (.bool (!r23)) rfl ?_)))))
  refine Wl.guard rfl rfl (fun hb13 => ?_) (fun hb13 => ?_)
  · replace h := h.2 hb13
    refine wZ rg (o_loadBA (atL (k := 2) rfl) sz25 (by decide) ag25 rfl rfl (v := eDiagram d) rfl ?_)
    refine Wl.guardT rfl rfl hb13 ?_
    refine wZ rg (o_bslice td142 ok25 zav25 (es := [eDiagram d]) rfl (kk := 3) rfl rfl rfl rfl rfl rfl (fun g12 => ?_))
    refine Wl.guardT rfl rfl hb13 ?_
    refine Wl.wk (canon_freeze (k := 27) (xs := List.map eDiagram [d]) rfl (es := [(1, .int .i64 i), (2, .ptr rg 2 g1 0 0), (25, .bool (!r23)), (27, eL eDiagram [d])]) (fc vr (fc vr (fc vr (fc (frz_full rfl) (fn))))) (m := [(2, .arr 3 [eDiagram d], g1)]) (sc rfl (sn))) ?_
    refine wZ rg (o_call (us := [eL eDiagram [d]]) rfl (vl' vr (vn)) (law16_valid_ctr h fun r24 h => ?_))
    refine Wl.guardT rfl rfl hb13 ?_
    refine wZ rg (o_not rfl (wZ rg (o_pickF rfl hb13 (v := .bool (!r24)) rfl (mvZ (.bool (!r24)) rfl ?_))))
    refine Wl.guard rfl rfl (fun hb14 => ?_) (fun hb14 => ?_)
    · replace h := h.2 hb14
      refine mvZ (.int .i64 i) rfl ?_
      refine Wl.guardT rfl rfl hb14 ?_
      refine wZ rg (o_lss rfl rfl (wZ rg (o_pickF rfl hb14 (v := .bool (decide (i < 0))) rfl (mvZ (.bool (decide (i < 0))) rfl ?_))))
      refine Wl.guard rfl rfl (fun hb15 => ?_) (fun hb15 => ?_)
      · replace h := h.2 hb15
        refine mvZ (.int .i64 i) rfl ?_
        refine Wl.guardT rfl rfl hb15 ?_
        refine wZ rg (o_faP td25 rfl rfl (by rw [sz22]; decide) rfl ?_)
        refine Wl.guardT rfl rfl hb15 ?_
        refine wZ rg (o_loadB1 (atL (k := 2) rfl) sz22 ag22 rfl rfl (v := eL (AV.int .i64) d.Order) rfl ?_)
        refine Wl.guardT rfl rfl hb15 ?_
        refine wZ rg (o_len td22 rfl ?_)
        refine Wl.guardT rfl rfl hb15 ?_
        refine wZ rg (o_geq rfl rfl (wZ rg (o_pickF rfl hb15 (v := .bool (decide ((d.Order.length : Int) ≤ i))) rfl (nZ ?_))))
        exact ⟨((decide ((d.Order.length : Int) ≤ i)), g1), (canon (fc vr (fc vr (fc vr (fn)))) (sc rfl (sn))), h⟩
      replace h := h.1 hb15
      refine Wl.guardF rfl rfl hb15 rfl ?_
      refine Wl.guardF rfl rfl hb15 rfl ?_
      refine Wl.guardF rfl rfl hb15 rfl ?_
      refine Wl.guardF rfl rfl hb15 rfl ?_
      refine wZ rg (o_pickT rfl hb15 (v := .bool true) rfl (nZ ?_))
      exact ⟨(true, g1), (canon (fc vr (fc vr (fc vr (fn)))) (sc rfl (sn))), h⟩
    replace h := h.1 hb14
    refine Wl.guardF rfl rfl hb14 rfl ?_
    refine wZ rg (o_pickT rfl hb14 (v := .bool true) rfl (mvZ (.bool true) rfl ?_))
    refine Wl.guardF rfl rfl rfl rfl ?_
    refine Wl.guardF rfl rfl rfl rfl ?_
    refine Wl.guardF rfl rfl rfl rfl ?_
    refine Wl.guardF rfl rfl rfl rfl ?_
    refine Wl.guardF rfl rfl rfl rfl ?_
    refine wZ rg (o_pickT rfl rfl (v := .bool true) rfl (nZ ?_))
    exact ⟨(true, g1), (canon (fc vr (fc vr (fc vr (fn)))) (sc rfl (sn))), h⟩
  replace h := h.1 hb13
  refine Wl.guardF rfl rfl hb13 rfl ?_
  refine Wl.guardF rfl rfl hb13 rfl ?_
  refine Wl.guardF rfl rfl hb13 rfl ?_
  refine wZ rg (o_pickT rfl hb13 (v := .bool true) rfl (mvZ (.bool true) rfl ?_))
  refine Wl.guardF rfl rfl rfl rfl ?_
  refine Wl.guardF rfl rfl rfl rfl ?_
  refine wZ rg (o_pickT rfl rfl (v := .bool true) rfl (mvZ (.bool true) rfl ?_))
  refine Wl.guardF rfl rfl rfl rfl ?_
  refine Wl.guardF rfl rfl rfl rfl ?_
  refine Wl.guardF rfl rfl rfl rfl ?_
  refine Wl.guardF rfl rfl rfl rfl ?_
  refine Wl.guardF rfl rfl rfl rfl ?_
  refine wZ rg (o_pickT rfl rfl (v := .bool true) rfl (nZ ?_))
  exact ⟨(true, g1), (canon (fc vr (fc vr (fc vr (fn)))) (sc rfl (sn))), h⟩
end Go.Proofs.Ytllegjdggcmgaaa
