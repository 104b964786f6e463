/- Walks of functions. Conditions: none. -/
import Derived.Test.YtiamkdpljeemkaaWa
import Derived.Test.YtiamkdpljeemkaaGgTy
import Derived.Test.YtiamkdpljeemkaaK1
import Derived.Test.YtiamkdpljeemkaaK2
import Derived.Test.YtiamkdpljeemkaaK4
import Derived.Test.YtiamkdpljeemkaaK5
/- Walks of functions. Conditions: none. -/
namespace Go.Proofs.Ytiamkdpljeemkaa
open Go.Gg
set_option maxRecDepth 100000
set_option maxHeartbeats 4000000 in
theorem law14_OrderPairs_ctr {a : List Int} {b : List Int} {level : Int} {Q : Bool → Prop} {S : St} {R : AV → St → Prop} (h : law14_OrderPairs_W a b level Q) (hQ : ∀ r1, Q r1 → R (AV.bool r1) S) :
    Ctr Try.prog 14 [eL (AV.int .i64) a, eL (AV.int .i64) b, AV.int .i64 level] S R := by
  unfold law14_OrderPairs_W at h
  refine enterT Try.func14 rfl Try.ntmps14 Try.results14 (by kernel_rfl) (fun rg hrg => ?_)
  refine qZ (rZ (asZ (.bool false) rfl (nZ (qZ ?_))))
  obtain ⟨J, h, hJ⟩ := h
  refine Vc.join' (σ := (Bool)) (fun y => J y) (fun y => envOf [(0, eL (AV.int .i64) a), (1, eL (AV.int .i64) b), (2, .int .i64 level), (27, .bool y)]) (fun y => stL S rg []) (fun x h => ?_) ?_
  · replace h := hJ x h
    show Vc _ _ _ _ (envOf [(0, eL (AV.int .i64) a), (1, eL (AV.int .i64) b), (2, .int .i64 level), (27, .bool x)]) (stL S rg [])
    refine Vc.cond' rfl (fun hb => ?_) (fun hb => ?_)
    · replace h := h.1 hb
      refine qZ (rZ (wZ rg (o_call (us := []) rfl (vn) (law14_awake_ctr h fun r h => (asZ (.bool r) rfl (nZ ?_))))))
      refine Vc.ret' ?_
      refine res_tmp (v := .bool r) rfl (res_nil ?_)
      show Gives _ (.bool r) _
      exact gives_out hrg (VW.refl _) (hQ _ h)
    replace h := h.2 hb
    refine Vc.skip' ?_
    refine qZ (rZ (mvZ (eL (AV.int .i64) a) rfl (wZ rg (o_call (us := [eL (AV.int .i64) a]) rfl (vl' vr (vn)) (order_Positions_ctr h fun r1 r2 h => (mvZ (.tuple [eL (AV.int .i64) r1, eErr 73 r2]) rfl (wZ rg (o_extract (v := eL (AV.int .i64) r1) rfl rfl rfl (wZ rg (o_extract (v := eErr 73 r2) rfl rfl rfl (asZ (eL (AV.int .i64) r1) rfl (asZ (eErr 73 r2) rfl (nZ (qZ (rZ ?_)))))))))))))))
    refine mvZ (eL (AV.int .i64) a) rfl (mvZ (eL (AV.int .i64) b) rfl (wZ rg (o_call (us := [eL (AV.int .i64) a, eL (AV.int .i64) b]) rfl (vl' vr (vl' vr (vn))) (order_Distance_ctr h fun r3 r4 h => (mvZ (.tuple [.int .i64 r3, eErr 73 r4]) rfl (wZ rg (o_extract (v := .int .i64 r3) rfl rfl rfl (wZ rg (o_extract (v := eErr 73 r4) rfl rfl rfl (asZ (.int .i64 r3) rfl (asZ (eErr 73 r4) rfl (nZ (qZ (rZ ?_))))))))))))))
    refine mvZ (eL (AV.int .i64) a) rfl (mvZ (.int .i64 level) rfl (wZ rg (o_call (us := [eL (AV.int .i64) a, AV.int .i64 level]) rfl (vl' vr (vl' vr (vn))) (order_Exchange_ctr h fun r5 r6 h => (mvZ (.tuple [eL (AV.int .i64) r5, eErr 73 r6]) rfl (wZ rg (o_extract (v := eL (AV.int .i64) r5) rfl rfl rfl (wZ rg (o_extract (v := eErr 73 r6) rfl rfl rfl (asZ (eL (AV.int .i64) r5) rfl ?_))))))))))
    refine asZ (eErr 73 r6) rfl (nZ (qZ (rZ (mvZ (eL (AV.int .i64) a) rfl (mvZ (eL (AV.int .i64) a) rfl (wZ rg (o_len td25 rfl (wZ rg (o_call (us := [eL (AV.int .i64) a, AV.int .i64 (a.length : Int)]) rfl (vl' vr (vl' vr (vn))) (ref14_Check_ctr h fun one h => (asZ (.int .i64 one) rfl (nZ (qZ (rZ (mvZ (.int .i64 one) rfl (mvZ (.int .i64 one) rfl (asZ (.int .i64 one) rfl ?_)))))))))))))))))
    refine asZ (.int .i64 one) rfl (nZ ?_)
    obtain ⟨J, h, hJ⟩ := h
    refine Vc.join' (σ := (Int)) (fun y => J y) (fun y => envOf [(0, eL (AV.int .i64) a), (1, eL (AV.int .i64) b), (2, .int .i64 level), (7, eL (AV.int .i64) r1), (8, eErr 73 r2), (9, .int .i64 r3), (10, eErr 73 r4), (11, eL (AV.int .i64) r5), (12, eErr 73 r6), (13, .int .i64 one), (14, .int .i64 y), (15, .int .i64 one)]) (fun y => stL S rg []) (fun two h => ?_) ?_
    · replace h := hJ two h
      show Vc _ _ _ _ (envOf [(0, eL (AV.int .i64) a), (1, eL (AV.int .i64) b), (2, .int .i64 level), (7, eL (AV.int .i64) r1), (8, eErr 73 r2), (9, .int .i64 r3), (10, eErr 73 r4), (11, eL (AV.int .i64) r5), (12, eErr 73 r6), (13, .int .i64 one), (14, .int .i64 two), (15, .int .i64 one)]) (stL S rg [])
      obtain ⟨J, h, hJ⟩ := h
      refine Vc.join' (σ := (Int)) (fun y => J y) (fun y => envOf [(0, eL (AV.int .i64) a), (1, eL (AV.int .i64) b), (2, .int .i64 level), (7, eL (AV.int .i64) r1), (8, eErr 73 r2), (9, .int .i64 r3), (10, eErr 73 r4), (11, eL (AV.int .i64) r5), (12, eErr 73 r6), (13, .int .i64 one), (14, .int .i64 y), (15, .int .i64 one)]) (fun y => stL S rg []) (fun two1 h => ?_) ?_
      · replace h := hJ two1 h
        show Vc _ _ _ _ (envOf [(0, eL (AV.int .i64) a), (1, eL (AV.int .i64) b), (2, .int .i64 level), (7, eL (AV.int .i64) r1), (8, eErr 73 r2), (9, .int .i64 r3), (10, eErr 73 r4), (11, eL (AV.int .i64) r5), (12, eErr 73 r6), (13, .int .i64 one), (14, .int .i64 two1), (15, .int .i64 one)]) (stL S rg [])
        obtain ⟨J, h, hJ⟩ := h
        refine Vc.join' (σ := (Int)) (fun y => J y) (fun y => envOf [(0, eL (AV.int .i64) a), (1, eL (AV.int .i64) b), (2, .int .i64 level), (7, eL (AV.int .i64) r1), (8, eErr 73 r2), (9, .int .i64 r3), (10, eErr 73 r4), (11, eL (AV.int .i64) r5), (12, eErr 73 r6), (13, .int .i64 one), (14, .int .i64 two1), (15, .int .i64 y)]) (fun y => stL S rg []) (fun three h => ?_) ?_
        · replace h := hJ three h
          show Vc _ _ _ _ (envOf [(0, eL (AV.int .i64) a), (1, eL (AV.int .i64) b), (2, .int .i64 level), (7, eL (AV.int .i64) r1), (8, eErr 73 r2), (9, .int .i64 r3), (10, eErr 73 r4), (11, eL (AV.int .i64) r5), (12, eErr 73 r6), (13, .int .i64 one), (14, .int .i64 two1), (15, .int .i64 three)]) (stL S rg [])
          obtain ⟨J, h, hJ⟩ := h
          refine Vc.join' (σ := (Unit)) (fun y => J y) (fun y => envOf [(0, eL (AV.int .i64) a), (1, eL (AV.int .i64) b), (2, .int .i64 level), (7, eL (AV.int .i64) r1), (9, .int .i64 r3), (11, eL (AV.int .i64) r5), (13, .int .i64 one), (14, .int .i64 two1), (15, .int .i64 three)]) (fun y => stL S rg []) (fun _ h => ?_) ?_
          · replace h := hJ () h
            show Vc _ _ _ _ (envOf [(0, eL (AV.int .i64) a), (1, eL (AV.int .i64) b), (2, .int .i64 level), (7, eL (AV.int .i64) r1), (9, .int .i64 r3), (11, eL (AV.int .i64) r5), (13, .int .i64 one), (14, .int .i64 two1), (15, .int .i64 three)]) (stL S rg [])
            refine qZ (rZ (mvZ (.int .i64 one) rfl (wZ rg (o_neq rfl rfl (mvZ (.bool (one != 0)) rfl ?_)))))
            refine Wl.guard rfl rfl (fun hb1 => ?_) (fun hb1 => ?_)
            · replace h := h.2 hb1
              refine mvZ (eL (AV.int .i64) r1) rfl ?_
              refine Wl.guardT rfl rfl hb1 ?_
              refine mvZ (eL (AV.int .i64) a) rfl ?_
              refine Wl.guardT rfl rfl hb1 ?_
              refine wZ rg (o_call (us := [eL (AV.int .i64) a]) rfl (vl' vr (vn)) (ref14_Positions_ctr h fun r7 h => ?_))
              refine Wl.guardT rfl rfl hb1 ?_
              refine wZ rg (o_call (us := [eL (AV.int .i64) r1, eL (AV.int .i64) r7]) rfl (vl' vr (vl' vr (vn))) (base_Ints_ctr h fun r8 h => (wZ rg (o_pickF rfl hb1 (v := .bool r8) rfl (mvZ (.bool r8) rfl ?_)))))
              refine Wl.guard rfl rfl (fun hb2 => ?_) (fun hb2 => ?_)
              · replace h := h.1 hb2
                refine mvZ (.int .i64 two1) rfl ?_
                refine Wl.guardT rfl rfl hb2 ?_
                refine wZ rg (o_neq rfl rfl ?_)
                refine Wl.guardT rfl rfl hb2 ?_
                refine mvZ (.bool (two1 != 0)) rfl ?_
                refine Wl.guard rfl rfl (fun hb3 => ?_) (fun hb3 => ?_)
                · replace h := h.2 hb3
                  refine mvZ (.int .i64 r3) rfl ?_
                  refine Wl.guardT rfl rfl hb3 ?_
                  refine mvZ (eL (AV.int .i64) a) rfl ?_
                  refine Wl.guardT rfl rfl hb3 ?_
                  refine mvZ (eL (AV.int .i64) b) rfl ?_
                  refine Wl.guardT rfl rfl hb3 ?_
                  refine wZ rg (o_call (us := [eL (AV.int .i64) a, eL (AV.int .i64) b]) rfl (vl' vr (vl' vr (vn))) (ref14_Distance_ctr h fun r9 h => ?_))
                  refine Wl.guardT rfl rfl hb3 ?_
                  refine wZ rg (o_eql rfl rfl ?_)
                  refine Wl.guardT rfl rfl hb2 ?_
                  refine wZ rg (o_pickF rfl hb3 (v := .bool (r3 == r9)) rfl (wZ rg (o_pickT rfl hb2 (v := .bool (r3 == r9)) rfl (mvZ (.bool (r3 == r9)) rfl ?_))))
                  refine Wl.guard rfl rfl (fun hb4 => ?_) (fun hb4 => ?_)
                  · replace h := h.1 hb4
                    refine mvZ (.int .i64 three) rfl ?_
                    refine Wl.guardT rfl rfl hb4 ?_
                    refine wZ rg (o_neq rfl rfl ?_)
                    refine Wl.guardT rfl rfl hb4 ?_
                    refine mvZ (.bool (three != 0)) rfl ?_
                    refine Wl.guard rfl rfl (fun hb5 => ?_) (fun hb5 => ?_)
                    · replace h := h.2 hb5
                      refine mvZ (eL (AV.int .i64) r5) rfl ?_
                      refine Wl.guardT rfl rfl hb5 ?_
                      refine mvZ (eL (AV.int .i64) a) rfl ?_
                      refine Wl.guardT rfl rfl hb5 ?_
                      refine mvZ (.int .i64 level) rfl ?_
                      refine Wl.guardT rfl rfl hb5 ?_
                      refine wZ rg (o_call (us := [eL (AV.int .i64) a, AV.int .i64 level]) rfl (vl' vr (vl' vr (vn))) (ref14_Exchange_ctr h fun r10 h => ?_))
                      refine Wl.guardT rfl rfl hb5 ?_
                      refine wZ rg (o_call (us := [eL (AV.int .i64) r5, eL (AV.int .i64) r10]) rfl (vl' vr (vl' vr (vn))) (base_Ints_ctr h fun r11 h => ?_))
                      refine Wl.guardT rfl rfl hb4 ?_
                      refine wZ rg (o_pickF rfl hb5 (v := .bool r11) rfl (wZ rg (o_pickT rfl hb4 (v := .bool r11) rfl (asZ (.bool r11) rfl (nZ ?_)))))
                      refine Vc.ret' ?_
                      refine res_tmp (v := .bool r11) rfl (res_nil ?_)
                      show Gives _ (.bool r11) _
                      exact gives_out hrg (VW.refl _) (hQ _ h)
                    replace h := h.1 hb5
                    refine Wl.guardF rfl rfl hb5 rfl ?_
                    refine Wl.guardF rfl rfl hb5 rfl ?_
                    refine Wl.guardF rfl rfl hb5 rfl ?_
                    refine Wl.guardF rfl rfl hb5 rfl ?_
                    refine Wl.guardT rfl rfl hb4 ?_
                    refine wZ rg (o_pickT rfl hb5 (v := .bool true) rfl (wZ rg (o_pickT rfl hb4 (v := .bool true) rfl (asZ (.bool true) rfl (nZ ?_)))))
                    refine Vc.ret' ?_
                    refine res_tmp (v := .bool true) rfl (res_nil ?_)
                    show Gives _ (.bool true) _
                    exact gives_out hrg (VW.refl _) (hQ _ h)
                  replace h := h.2 hb4
                  refine Wl.guardF rfl rfl hb4 rfl ?_
                  refine Wl.guardF rfl rfl hb4 rfl ?_
                  refine Wl.guardU rfl rfl ?_
                  refine Wl.guardU rfl rfl ?_
                  refine Wl.guardU rfl rfl ?_
                  refine Wl.guardU rfl rfl ?_
                  refine Wl.guardU rfl rfl ?_
                  refine Wl.guardF rfl rfl hb4 rfl ?_
                  refine wZ rg (o_pickF rfl hb4 (v := .bool false) rfl (asZ (.bool false) rfl (nZ ?_)))
                  refine Vc.ret' ?_
                  refine res_tmp (v := .bool false) rfl (res_nil ?_)
                  show Gives _ (.bool false) _
                  exact gives_out hrg (VW.refl _) (hQ _ h)
                replace h := h.1 hb3
                refine Wl.guardF rfl rfl hb3 rfl ?_
                refine Wl.guardF rfl rfl hb3 rfl ?_
                refine Wl.guardF rfl rfl hb3 rfl ?_
                refine Wl.guardF rfl rfl hb3 rfl ?_
                refine Wl.guardT rfl rfl hb2 ?_
                refine wZ rg (o_pickT rfl hb3 (v := .bool true) rfl (wZ rg (o_pickT rfl hb2 (v := .bool true) rfl (mvZ (.bool true) rfl ?_))))
                refine Wl.guardT rfl rfl rfl ?_
                refine mvZ (.int .i64 three) rfl ?_
                refine Wl.guardT rfl rfl rfl ?_
                refine wZ rg (o_neq rfl rfl ?_)
                refine Wl.guardT rfl rfl rfl ?_
                refine mvZ (.bool (three != 0)) rfl ?_
                refine Wl.guard rfl rfl (fun hb6 => ?_) (fun hb6 => ?_)
                · replace h := h.2 hb6
                  refine mvZ (eL (AV.int .i64) r5) rfl ?_
                  refine Wl.guardT rfl rfl hb6 ?_
                  refine mvZ (eL (AV.int .i64) a) rfl ?_
                  refine Wl.guardT rfl rfl hb6 ?_
                  refine mvZ (.int .i64 level) rfl ?_
                  refine Wl.guardT rfl rfl hb6 ?_
                  refine wZ rg (o_call (us := [eL (AV.int .i64) a, AV.int .i64 level]) rfl (vl' vr (vl' vr (vn))) (ref14_Exchange_ctr h fun r12 h => ?_))
                  refine Wl.guardT rfl rfl hb6 ?_
                  refine wZ rg (o_call (us := [eL (AV.int .i64) r5, eL (AV.int .i64) r12]) rfl (vl' vr (vl' vr (vn))) (base_Ints_ctr h fun r13 h => ?_))
                  refine Wl.guardT rfl rfl rfl ?_
                  refine wZ rg (o_pickF rfl hb6 (v := .bool r13) rfl (wZ rg (o_pickT rfl rfl (v := .bool r13) rfl (asZ (.bool r13) rfl (nZ ?_)))))
                  refine Vc.ret' ?_
                  refine res_tmp (v := .bool r13) rfl (res_nil ?_)
                  show Gives _ (.bool r13) _
                  exact gives_out hrg (VW.refl _) (hQ _ h)
                replace h := h.1 hb6
                refine Wl.guardF rfl rfl hb6 rfl ?_
                refine Wl.guardF rfl rfl hb6 rfl ?_
                refine Wl.guardF rfl rfl hb6 rfl ?_
                refine Wl.guardF rfl rfl hb6 rfl ?_
                refine Wl.guardT rfl rfl rfl ?_
                refine wZ rg (o_pickT rfl hb6 (v := .bool true) rfl (wZ rg (o_pickT rfl rfl (v := .bool true) rfl (asZ (.bool true) rfl (nZ ?_)))))
                refine Vc.ret' ?_
                refine res_tmp (v := .bool true) rfl (res_nil ?_)
                show Gives _ (.bool true) _
                exact gives_out hrg (VW.refl _) (hQ _ h)
              replace h := h.2 hb2
              refine Wl.guardF rfl rfl hb2 rfl ?_
              refine Wl.guardF rfl rfl hb2 rfl ?_
              refine Wl.guardU rfl rfl ?_
              refine Wl.guardU rfl rfl ?_
              refine Wl.guardU rfl rfl ?_
              refine Wl.guardU rfl rfl ?_
              refine Wl.guardU rfl rfl ?_
              refine Wl.guardF rfl rfl hb2 rfl ?_
              refine wZ rg (o_pickF rfl hb2 (v := .bool false) rfl (mvZ (.bool false) rfl ?_))
              refine Wl.guardF rfl rfl rfl rfl ?_
              refine Wl.guardF rfl rfl rfl rfl ?_
              refine Wl.guardF rfl rfl rfl rfl ?_
              refine Wl.guardU rfl rfl ?_
              refine Wl.guardU rfl rfl ?_
              refine Wl.guardU rfl rfl ?_
              refine Wl.guardU rfl rfl ?_
              refine Wl.guardU rfl rfl ?_
              refine Wl.guardF rfl rfl rfl rfl ?_
              refine wZ rg (o_pickF rfl rfl (v := .bool false) rfl (asZ (.bool false) rfl (nZ ?_)))
              refine Vc.ret' ?_
              refine res_tmp (v := .bool false) rfl (res_nil ?_)
              show Gives _ (.bool false) _
              exact gives_out hrg (VW.refl _) (hQ _ h)
            replace h := h.1 hb1
            refine Wl.guardF rfl rfl hb1 rfl ?_
            refine Wl.guardF rfl rfl hb1 rfl ?_
            refine Wl.guardF rfl rfl hb1 rfl ?_
            refine wZ rg (o_pickT rfl hb1 (v := .bool true) rfl (mvZ (.bool true) rfl ?_))
            refine Wl.guardT rfl rfl rfl ?_
            refine mvZ (.int .i64 two1) rfl ?_
            refine Wl.guardT rfl rfl rfl ?_
            refine wZ rg (o_neq rfl rfl ?_)
            refine Wl.guardT rfl rfl rfl ?_
            refine mvZ (.bool (two1 != 0)) rfl ?_
            refine Wl.guard rfl rfl (fun hb7 => ?_) (fun hb7 => ?_)
            · replace h := h.2 hb7
              refine mvZ (.int .i64 r3) rfl ?_
              refine Wl.guardT rfl rfl hb7 ?_
              refine mvZ (eL (AV.int .i64) a) rfl ?_
              refine Wl.guardT rfl rfl hb7 ?_
              refine mvZ (eL (AV.int .i64) b) rfl ?_
              refine Wl.guardT rfl rfl hb7 ?_
              refine wZ rg (o_call (us := [eL (AV.int .i64) a, eL (AV.int .i64) b]) rfl (vl' vr (vl' vr (vn))) (ref14_Distance_ctr h fun r14 h => ?_))
              refine Wl.guardT rfl rfl hb7 ?_
              refine wZ rg (o_eql rfl rfl ?_)
              refine Wl.guardT rfl rfl rfl ?_
              refine wZ rg (o_pickF rfl hb7 (v := .bool (r3 == r14)) rfl (wZ rg (o_pickT rfl rfl (v := .bool (r3 == r14)) rfl (mvZ (.bool (r3 == r14)) rfl ?_))))
              refine Wl.guard rfl rfl (fun hb8 => ?_) (fun hb8 => ?_)
              · replace h := h.1 hb8
                refine mvZ (.int .i64 three) rfl ?_
                refine Wl.guardT rfl rfl hb8 ?_
                refine wZ rg (o_neq rfl rfl ?_)
                refine Wl.guardT rfl rfl hb8 ?_
                refine mvZ (.bool (three != 0)) rfl ?_
                refine Wl.guard rfl rfl (fun hb9 => ?_) (fun hb9 => ?_)
                · replace h := h.2 hb9
                  refine mvZ (eL (AV.int .i64) r5) rfl ?_
                  refine Wl.guardT rfl rfl hb9 ?_
                  refine mvZ (eL (AV.int .i64) a) rfl ?_
                  refine Wl.guardT rfl rfl hb9 ?_
                  refine mvZ (.int .i64 level) rfl ?_
                  refine Wl.guardT rfl rfl hb9 ?_
                  refine wZ rg (o_call (us := [eL (AV.int .i64) a, AV.int .i64 level]) rfl (vl' vr (vl' vr (vn))) (ref14_Exchange_ctr h fun r15 h => ?_))
                  refine Wl.guardT rfl rfl hb9 ?_
                  refine wZ rg (o_call (us := [eL (AV.int .i64) r5, eL (AV.int .i64) r15]) rfl (vl' vr (vl' vr (vn))) (base_Ints_ctr h fun r16 h => ?_))
                  refine Wl.guardT rfl rfl hb8 ?_
                  refine wZ rg (o_pickF rfl hb9 (v := .bool r16) rfl (wZ rg (o_pickT rfl hb8 (v := .bool r16) rfl (asZ (.bool r16) rfl (nZ ?_)))))
                  refine Vc.ret' ?_
                  refine res_tmp (v := .bool r16) rfl (res_nil ?_)
                  show Gives _ (.bool r16) _
                  exact gives_out hrg (VW.refl _) (hQ _ h)
                replace h := h.1 hb9
                refine Wl.guardF rfl rfl hb9 rfl ?_
                refine Wl.guardF rfl rfl hb9 rfl ?_
                refine Wl.guardF rfl rfl hb9 rfl ?_
                refine Wl.guardF rfl rfl hb9 rfl ?_
                refine Wl.guardT rfl rfl hb8 ?_
                refine wZ rg (o_pickT rfl hb9 (v := .bool true) rfl (wZ rg (o_pickT rfl hb8 (v := .bool true) rfl (asZ (.bool true) rfl (nZ ?_)))))
                refine Vc.ret' ?_
                refine res_tmp (v := .bool true) rfl (res_nil ?_)
                show Gives _ (.bool true) _
                exact gives_out hrg (VW.refl _) (hQ _ h)
              replace h := h.2 hb8
              refine Wl.guardF rfl rfl hb8 rfl ?_
              refine Wl.guardF rfl rfl hb8 rfl ?_
              refine Wl.guardU rfl rfl ?_
              refine Wl.guardU rfl rfl ?_
              refine Wl.guardU rfl rfl ?_
              refine Wl.guardU rfl rfl ?_
              refine Wl.guardU rfl rfl ?_
              refine Wl.guardF rfl rfl hb8 rfl ?_
              refine wZ rg (o_pickF rfl hb8 (v := .bool false) rfl (asZ (.bool false) rfl (nZ ?_)))
              refine Vc.ret' ?_
              refine res_tmp (v := .bool false) rfl (res_nil ?_)
              show Gives _ (.bool false) _
              exact gives_out hrg (VW.refl _) (hQ _ h)
            replace h := h.1 hb7
            refine Wl.guardF rfl rfl hb7 rfl ?_
            refine Wl.guardF rfl rfl hb7 rfl ?_
            refine Wl.guardF rfl rfl hb7 rfl ?_
            refine Wl.guardF rfl rfl hb7 rfl ?_
            refine Wl.guardT rfl rfl rfl ?_
            refine wZ rg (o_pickT rfl hb7 (v := .bool true) rfl (wZ rg (o_pickT rfl rfl (v := .bool true) rfl (mvZ (.bool true) rfl ?_))))
            refine Wl.guardT rfl rfl rfl ?_
            refine mvZ (.int .i64 three) rfl ?_
            refine Wl.guardT rfl rfl rfl ?_
            refine wZ rg (o_neq rfl rfl ?_)
            refine Wl.guardT rfl rfl rfl ?_
            refine mvZ (.bool (three != 0)) rfl ?_
            refine Wl.guard rfl rfl (fun hb10 => ?_) (fun hb10 => ?_)
            · replace h := h.2 hb10
              refine mvZ (eL (AV.int .i64) r5) rfl ?_
              refine Wl.guardT rfl rfl hb10 ?_
              refine mvZ (eL (AV.int .i64) a) rfl ?_
              refine Wl.guardT rfl rfl hb10 ?_
              refine mvZ (.int .i64 level) rfl ?_
              refine Wl.guardT rfl rfl hb10 ?_
              refine wZ rg (o_call (us := [eL (AV.int .i64) a, AV.int .i64 level]) rfl (vl' vr (vl' vr (vn))) (ref14_Exchange_ctr h fun r17 h => ?_))
              refine Wl.guardT rfl rfl hb10 ?_
              refine wZ rg (o_call (us := [eL (AV.int .i64) r5, eL (AV.int .i64) r17]) rfl (vl' vr (vl' vr (vn))) (base_Ints_ctr h fun r18 h => ?_))
              refine Wl.guardT rfl rfl rfl ?_
              refine wZ rg (o_pickF rfl hb10 (v := .bool r18) rfl (wZ rg (o_pickT rfl rfl (v := .bool r18) rfl (asZ (.bool r18) rfl (nZ ?_)))))
              refine Vc.ret' ?_
              refine res_tmp (v := .bool r18) rfl (res_nil ?_)
              show Gives _ (.bool r18) _
              exact gives_out hrg (VW.refl _) (hQ _ h)
            replace h := h.1 hb10
            refine Wl.guardF rfl rfl hb10 rfl ?_
            refine Wl.guardF rfl rfl hb10 rfl ?_
            refine Wl.guardF rfl rfl hb10 rfl ?_
            refine Wl.guardF rfl rfl hb10 rfl ?_
            refine Wl.guardT rfl rfl rfl ?_
            refine wZ rg (o_pickT rfl hb10 (v := .bool true) rfl (wZ rg (o_pickT rfl rfl (v := .bool true) rfl (asZ (.bool true) rfl (nZ ?_)))))
            refine Vc.ret' ?_
            refine res_tmp (v := .bool true) rfl (res_nil ?_)
            show Gives _ (.bool true) _
            exact gives_out hrg (VW.refl _) (hQ _ h)
          refine qZ (rZ (mvZ (eErr 73 r2) rfl (wZ rg (o_call (us := [eErr 73 r2]) rfl (vl' vr (vn)) (base_Num_ctr h fun r19 h => (mvZ (.int .i64 one) rfl (wZ rg (o_neq rfl rfl (mvZ (.bool (r19 != one)) rfl ?_)))))))))
          refine Wl.guard rfl rfl (fun hb11 => ?_) (fun hb11 => ?_)
          · replace h := h.2 hb11
            refine mvZ (eErr 73 r4) rfl ?_
            refine Wl.guardT rfl rfl hb11 ?_
            refine wZ rg (o_call (us := [eErr 73 r4]) rfl (vl' vr (vn)) (base_Num_ctr h fun r20 h => ?_))
            refine Wl.guardT rfl rfl hb11 ?_
            refine mvZ (.int .i64 two1) rfl ?_
            refine Wl.guardT rfl rfl hb11 ?_
            refine wZ rg (o_neq rfl rfl (wZ rg (o_pickF rfl hb11 (v := .bool (r20 != two1)) rfl (mvZ (.bool (r20 != two1)) rfl ?_))))
            refine Wl.guard rfl rfl (fun hb12 => ?_) (fun hb12 => ?_)
            · replace h := h.2 hb12
              refine mvZ (eErr 73 r6) rfl ?_
              refine Wl.guardT rfl rfl hb12 ?_
              refine wZ rg (o_call (us := [eErr 73 r6]) rfl (vl' vr (vn)) (base_Num_ctr h fun r21 h => ?_))
              refine Wl.guardT rfl rfl hb12 ?_
              refine mvZ (.int .i64 three) rfl ?_
              refine Wl.guardT rfl rfl hb12 ?_
              refine wZ rg (o_neq rfl rfl (wZ rg (o_pickF rfl hb12 (v := .bool (r21 != three)) rfl (mvZ (.bool (r21 != three)) rfl ?_))))
              refine Wl.guard rfl rfl (fun hb13 => ?_) (fun hb13 => ?_)
              · replace h := h.2 hb13
                refine mvZ (.int .i64 one) rfl ?_
                refine Wl.guardT rfl rfl hb13 ?_
                refine wZ rg (o_neq rfl rfl ?_)
                refine Wl.guardT rfl rfl hb13 ?_
                refine mvZ (.bool (one != 0)) rfl ?_
                refine Wl.guard rfl rfl (fun hb14 => ?_) (fun hb14 => ?_)
                · replace h := h.1 hb14
                  refine mvZ (eL (AV.int .i64) r1) rfl ?_
                  refine Wl.guardT rfl rfl hb14 ?_
                  refine wZ rg (o_len td25 rfl ?_)
                  refine Wl.guardT rfl rfl hb14 ?_
                  refine wZ rg (o_gtr rfl rfl ?_)
                  refine Wl.guardT rfl rfl hb13 ?_
                  refine wZ rg (o_pickT rfl hb14 (v := .bool (decide (0 < (r1.length : Int)))) rfl (wZ rg (o_pickF rfl hb13 (v := .bool (decide (0 < (r1.length : Int)))) rfl (mvZ (.bool (decide (0 < (r1.length : Int)))) rfl ?_))))
                  refine Wl.guard rfl rfl (fun hb15 => ?_) (fun hb15 => ?_)
                  · replace h := h.2 hb15
                    refine mvZ (.int .i64 two1) rfl ?_
                    refine Wl.guardT rfl rfl hb15 ?_
                    refine wZ rg (o_neq rfl rfl ?_)
                    refine Wl.guardT rfl rfl hb15 ?_
                    refine mvZ (.bool (two1 != 0)) rfl ?_
                    refine Wl.guard rfl rfl (fun hb16 => ?_) (fun hb16 => ?_)
                    · replace h := h.1 hb16
                      refine mvZ (.int .i64 r3) rfl ?_
                      refine Wl.guardT rfl rfl hb16 ?_
                      refine wZ rg (o_neq rfl rfl ?_)
                      refine Wl.guardT rfl rfl hb15 ?_
                      refine wZ rg (o_pickT rfl hb16 (v := .bool (r3 != 0)) rfl (wZ rg (o_pickF rfl hb15 (v := .bool (r3 != 0)) rfl (mvZ (.bool (r3 != 0)) rfl ?_))))
                      refine Wl.guard rfl rfl (fun hb17 => ?_) (fun hb17 => ?_)
                      · replace h := h.2 hb17
                        refine mvZ (.int .i64 three) rfl ?_
                        refine Wl.guardT rfl rfl hb17 ?_
                        refine wZ rg (o_neq rfl rfl ?_)
                        refine Wl.guardT rfl rfl hb17 ?_
                        refine mvZ (.bool (three != 0)) rfl ?_
                        refine Wl.guard rfl rfl (fun hb18 => ?_) (fun hb18 => ?_)
                        · replace h := h.1 hb18
                          refine mvZ (eL (AV.int .i64) r5) rfl ?_
                          refine Wl.guardT rfl rfl hb18 ?_
                          refine wZ rg (o_len td25 rfl ?_)
                          refine Wl.guardT rfl rfl hb18 ?_
                          refine wZ rg (o_gtr rfl rfl ?_)
                          refine Wl.guardT rfl rfl hb17 ?_
                          refine wZ rg (o_pickT rfl hb18 (v := .bool (decide (0 < (r5.length : Int)))) rfl (wZ rg (o_pickF rfl hb17 (v := .bool (decide (0 < (r5.length : Int)))) rfl (nZ ?_))))
                          refine Vc.cond' rfl (fun hb19 => ?_) (fun hb19 => ?_)
                          · replace h := h.1 hb19
                            refine qZ (rZ (asZ (.bool false) rfl (nZ ?_)))
                            refine Vc.ret' ?_
                            refine res_tmp (v := .bool false) rfl (res_nil ?_)
                            show Gives _ (.bool false) _
                            exact gives_out hrg (VW.refl _) (hQ _ h)
                          replace h := h.2 hb19
                          refine Vc.skip' ?_
                          exact ⟨(), (canon (fc vr (fc vr (fc vr (fc vr (fc vr (fc vr (fc vr (fc vr (fc vr (fn)))))))))) (sn)), h⟩
                        replace h := h.2 hb18
                        refine Wl.guardF rfl rfl hb18 rfl ?_
                        refine Wl.guardF rfl rfl hb18 rfl ?_
                        refine Wl.guardT rfl rfl hb17 ?_
                        refine wZ rg (o_pickF rfl hb18 (v := .bool false) rfl (wZ rg (o_pickF rfl hb17 (v := .bool false) rfl (nZ ?_))))
                        refine Vc.cond' rfl (fun hb => Bool.noConfusion hb) (fun _ => ?_)
                        refine Vc.skip' ?_
                        exact ⟨(), (canon (fc vr (fc vr (fc vr (fc vr (fc vr (fc vr (fc vr (fc vr (fc vr (fn)))))))))) (sn)), h⟩
                      replace h := h.1 hb17
                      refine Wl.guardF rfl rfl hb17 rfl ?_
                      refine Wl.guardF rfl rfl hb17 rfl ?_
                      refine Wl.guardU rfl rfl ?_
                      refine Wl.guardU rfl rfl ?_
                      refine Wl.guardU rfl rfl ?_
                      refine Wl.guardF rfl rfl hb17 rfl ?_
                      refine wZ rg (o_pickT rfl hb17 (v := .bool true) rfl (nZ ?_))
                      refine Vc.cond' rfl (fun _ => ?_) (fun hb => Bool.noConfusion hb)
                      refine qZ (rZ (asZ (.bool false) rfl (nZ ?_)))
                      refine Vc.ret' ?_
                      refine res_tmp (v := .bool false) rfl (res_nil ?_)
                      show Gives _ (.bool false) _
                      exact gives_out hrg (VW.refl _) (hQ _ h)
                    replace h := h.2 hb16
                    refine Wl.guardF rfl rfl hb16 rfl ?_
                    refine Wl.guardT rfl rfl hb15 ?_
                    refine wZ rg (o_pickF rfl hb16 (v := .bool false) rfl (wZ rg (o_pickF rfl hb15 (v := .bool false) rfl (mvZ (.bool false) rfl ?_))))
                    refine Wl.guardT rfl rfl rfl ?_
                    refine mvZ (.int .i64 three) rfl ?_
                    refine Wl.guardT rfl rfl rfl ?_
                    refine wZ rg (o_neq rfl rfl ?_)
                    refine Wl.guardT rfl rfl rfl ?_
                    refine mvZ (.bool (three != 0)) rfl ?_
                    refine Wl.guard rfl rfl (fun hb20 => ?_) (fun hb20 => ?_)
                    · replace h := h.1 hb20
                      refine mvZ (eL (AV.int .i64) r5) rfl ?_
                      refine Wl.guardT rfl rfl hb20 ?_
                      refine wZ rg (o_len td25 rfl ?_)
                      refine Wl.guardT rfl rfl hb20 ?_
                      refine wZ rg (o_gtr rfl rfl ?_)
                      refine Wl.guardT rfl rfl rfl ?_
                      refine wZ rg (o_pickT rfl hb20 (v := .bool (decide (0 < (r5.length : Int)))) rfl (wZ rg (o_pickF rfl rfl (v := .bool (decide (0 < (r5.length : Int)))) rfl (nZ ?_))))
                      refine Vc.cond' rfl (fun hb21 => ?_) (fun hb21 => ?_)
                      · replace h := h.1 hb21
                        refine qZ (rZ (asZ (.bool false) rfl (nZ ?_)))
                        refine Vc.ret' ?_
                        refine res_tmp (v := .bool false) rfl (res_nil ?_)
                        show Gives _ (.bool false) _
                        exact gives_out hrg (VW.refl _) (hQ _ h)
                      replace h := h.2 hb21
                      refine Vc.skip' ?_
                      exact ⟨(), (canon (fc vr (fc vr (fc vr (fc vr (fc vr (fc vr (fc vr (fc vr (fc vr (fn)))))))))) (sn)), h⟩
                    replace h := h.2 hb20
                    refine Wl.guardF rfl rfl hb20 rfl ?_
                    refine Wl.guardF rfl rfl hb20 rfl ?_
                    refine Wl.guardT rfl rfl rfl ?_
                    refine wZ rg (o_pickF rfl hb20 (v := .bool false) rfl (wZ rg (o_pickF rfl rfl (v := .bool false) rfl (nZ ?_))))
                    refine Vc.cond' rfl (fun hb => Bool.noConfusion hb) (fun _ => ?_)
                    refine Vc.skip' ?_
                    exact ⟨(), (canon (fc vr (fc vr (fc vr (fc vr (fc vr (fc vr (fc vr (fc vr (fc vr (fn)))))))))) (sn)), h⟩
                  replace h := h.1 hb15
                  refine Wl.guardF rfl rfl hb15 rfl ?_
                  refine Wl.guardF rfl rfl hb15 rfl ?_
                  refine Wl.guardU rfl rfl ?_
                  refine Wl.guardU rfl rfl ?_
                  refine Wl.guardF rfl rfl hb15 rfl ?_
                  refine wZ rg (o_pickT rfl hb15 (v := .bool true) rfl (mvZ (.bool true) rfl ?_))
                  refine Wl.guardF rfl rfl rfl rfl ?_
                  refine Wl.guardF rfl rfl rfl rfl ?_
                  refine Wl.guardF rfl rfl rfl rfl ?_
                  refine Wl.guardU rfl rfl ?_
                  refine Wl.guardU rfl rfl ?_
                  refine Wl.guardU rfl rfl ?_
                  refine Wl.guardF rfl rfl rfl rfl ?_
                  refine wZ rg (o_pickT rfl rfl (v := .bool true) rfl (nZ ?_))
                  refine Vc.cond' rfl (fun _ => ?_) (fun hb => Bool.noConfusion hb)
                  refine qZ (rZ (asZ (.bool false) rfl (nZ ?_)))
                  refine Vc.ret' ?_
                  refine res_tmp (v := .bool false) rfl (res_nil ?_)
                  show Gives _ (.bool false) _
                  exact gives_out hrg (VW.refl _) (hQ _ h)
                replace h := h.2 hb14
                refine Wl.guardF rfl rfl hb14 rfl ?_
                refine Wl.guardF rfl rfl hb14 rfl ?_
                refine Wl.guardT rfl rfl hb13 ?_
                refine wZ rg (o_pickF rfl hb14 (v := .bool false) rfl (wZ rg (o_pickF rfl hb13 (v := .bool false) rfl (mvZ (.bool false) rfl ?_))))
                refine Wl.guardT rfl rfl rfl ?_
                refine mvZ (.int .i64 two1) rfl ?_
                refine Wl.guardT rfl rfl rfl ?_
                refine wZ rg (o_neq rfl rfl ?_)
                refine Wl.guardT rfl rfl rfl ?_
                refine mvZ (.bool (two1 != 0)) rfl ?_
                refine Wl.guard rfl rfl (fun hb22 => ?_) (fun hb22 => ?_)
                · replace h := h.1 hb22
                  refine mvZ (.int .i64 r3) rfl ?_
                  refine Wl.guardT rfl rfl hb22 ?_
                  refine wZ rg (o_neq rfl rfl ?_)
                  refine Wl.guardT rfl rfl rfl ?_
                  refine wZ rg (o_pickT rfl hb22 (v := .bool (r3 != 0)) rfl (wZ rg (o_pickF rfl rfl (v := .bool (r3 != 0)) rfl (mvZ (.bool (r3 != 0)) rfl ?_))))
                  refine Wl.guard rfl rfl (fun hb23 => ?_) (fun hb23 => ?_)
                  · replace h := h.2 hb23
                    refine mvZ (.int .i64 three) rfl ?_
                    refine Wl.guardT rfl rfl hb23 ?_
                    refine wZ rg (o_neq rfl rfl ?_)
                    refine Wl.guardT rfl rfl hb23 ?_
                    refine mvZ (.bool (three != 0)) rfl ?_
                    refine Wl.guard rfl rfl (fun hb24 => ?_) (fun hb24 => ?_)
                    · replace h := h.1 hb24
                      refine mvZ (eL (AV.int .i64) r5) rfl ?_
                      refine Wl.guardT rfl rfl hb24 ?_
                      refine wZ rg (o_len td25 rfl ?_)
                      refine Wl.guardT rfl rfl hb24 ?_
                      refine wZ rg (o_gtr rfl rfl ?_)
                      refine Wl.guardT rfl rfl hb23 ?_
                      refine wZ rg (o_pickT rfl hb24 (v := .bool (decide (0 < (r5.length : Int)))) rfl (wZ rg (o_pickF rfl hb23 (v := .bool (decide (0 < (r5.length : Int)))) rfl (nZ ?_))))
                      refine Vc.cond' rfl (fun hb25 => ?_) (fun hb25 => ?_)
                      · replace h := h.1 hb25
                        refine qZ (rZ (asZ (.bool false) rfl (nZ ?_)))
                        refine Vc.ret' ?_
                        refine res_tmp (v := .bool false) rfl (res_nil ?_)
                        show Gives _ (.bool false) _
                        exact gives_out hrg (VW.refl _) (hQ _ h)
                      replace h := h.2 hb25
                      refine Vc.skip' ?_
                      exact ⟨(), (canon (fc vr (fc vr (fc vr (fc vr (fc vr (fc vr (fc vr (fc vr (fc vr (fn)))))))))) (sn)), h⟩
                    replace h := h.2 hb24
                    refine Wl.guardF rfl rfl hb24 rfl ?_
                    refine Wl.guardF rfl rfl hb24 rfl ?_
                    refine Wl.guardT rfl rfl hb23 ?_
                    refine wZ rg (o_pickF rfl hb24 (v := .bool false) rfl (wZ rg (o_pickF rfl hb23 (v := .bool false) rfl (nZ ?_))))
                    refine Vc.cond' rfl (fun hb => Bool.noConfusion hb) (fun _ => ?_)
                    refine Vc.skip' ?_
                    exact ⟨(), (canon (fc vr (fc vr (fc vr (fc vr (fc vr (fc vr (fc vr (fc vr (fc vr (fn)))))))))) (sn)), h⟩
                  replace h := h.1 hb23
                  refine Wl.guardF rfl rfl hb23 rfl ?_
                  refine Wl.guardF rfl rfl hb23 rfl ?_
                  refine Wl.guardU rfl rfl ?_
                  refine Wl.guardU rfl rfl ?_
                  refine Wl.guardU rfl rfl ?_
                  refine Wl.guardF rfl rfl hb23 rfl ?_
                  refine wZ rg (o_pickT rfl hb23 (v := .bool true) rfl (nZ ?_))
                  refine Vc.cond' rfl (fun _ => ?_) (fun hb => Bool.noConfusion hb)
                  refine qZ (rZ (asZ (.bool false) rfl (nZ ?_)))
                  refine Vc.ret' ?_
                  refine res_tmp (v := .bool false) rfl (res_nil ?_)
                  show Gives _ (.bool false) _
                  exact gives_out hrg (VW.refl _) (hQ _ h)
                replace h := h.2 hb22
                refine Wl.guardF rfl rfl hb22 rfl ?_
                refine Wl.guardT rfl rfl rfl ?_
                refine wZ rg (o_pickF rfl hb22 (v := .bool false) rfl (wZ rg (o_pickF rfl rfl (v := .bool false) rfl (mvZ (.bool false) rfl ?_))))
                refine Wl.guardT rfl rfl rfl ?_
                refine mvZ (.int .i64 three) rfl ?_
                refine Wl.guardT rfl rfl rfl ?_
                refine wZ rg (o_neq rfl rfl ?_)
                refine Wl.guardT rfl rfl rfl ?_
                refine mvZ (.bool (three != 0)) rfl ?_
                refine Wl.guard rfl rfl (fun hb26 => ?_) (fun hb26 => ?_)
                · replace h := h.1 hb26
                  refine mvZ (eL (AV.int .i64) r5) rfl ?_
                  refine Wl.guardT rfl rfl hb26 ?_
                  refine wZ rg (o_len td25 rfl ?_)
                  refine Wl.guardT rfl rfl hb26 ?_
                  refine wZ rg (o_gtr rfl rfl ?_)
                  refine Wl.guardT rfl rfl rfl ?_
                  refine wZ rg (o_pickT rfl hb26 (v := .bool (decide (0 < (r5.length : Int)))) rfl (wZ rg (o_pickF rfl rfl (v := .bool (decide (0 < (r5.length : Int)))) rfl (nZ ?_))))
                  refine Vc.cond' rfl (fun hb27 => ?_) (fun hb27 => ?_)
                  · replace h := h.1 hb27
                    refine qZ (rZ (asZ (.bool false) rfl (nZ ?_)))
                    refine Vc.ret' ?_
                    refine res_tmp (v := .bool false) rfl (res_nil ?_)
                    show Gives _ (.bool false) _
                    exact gives_out hrg (VW.refl _) (hQ _ h)
                  replace h := h.2 hb27
                  refine Vc.skip' ?_
                  exact ⟨(), (canon (fc vr (fc vr (fc vr (fc vr (fc vr (fc vr (fc vr (fc vr (fc vr (fn)))))))))) (sn)), h⟩
                replace h := h.2 hb26
                refine Wl.guardF rfl rfl hb26 rfl ?_
                refine Wl.guardF rfl rfl hb26 rfl ?_
                refine Wl.guardT rfl rfl rfl ?_
                refine wZ rg (o_pickF rfl hb26 (v := .bool false) rfl (wZ rg (o_pickF rfl rfl (v := .bool false) rfl (nZ ?_))))
                refine Vc.cond' rfl (fun hb => Bool.noConfusion hb) (fun _ => ?_)
                refine Vc.skip' ?_
                exact ⟨(), (canon (fc vr (fc vr (fc vr (fc vr (fc vr (fc vr (fc vr (fc vr (fc vr (fn)))))))))) (sn)), h⟩
              replace h := h.1 hb13
              refine Wl.guardF rfl rfl hb13 rfl ?_
              refine Wl.guardF rfl rfl hb13 rfl ?_
              refine Wl.guardU rfl rfl ?_
              refine Wl.guardU rfl rfl ?_
              refine Wl.guardU rfl rfl ?_
              refine Wl.guardF rfl rfl hb13 rfl ?_
              refine wZ rg (o_pickT rfl hb13 (v := .bool true) rfl (mvZ (.bool true) rfl ?_))
              refine Wl.guardF rfl rfl rfl rfl ?_
              refine Wl.guardF rfl rfl rfl rfl ?_
              refine Wl.guardF rfl rfl rfl rfl ?_
              refine Wl.guardU rfl rfl ?_
              refine Wl.guardU rfl rfl ?_
              refine Wl.guardF rfl rfl rfl rfl ?_
              refine wZ rg (o_pickT rfl rfl (v := .bool true) rfl (mvZ (.bool true) rfl ?_))
              refine Wl.guardF rfl rfl rfl rfl ?_
              refine Wl.guardF rfl rfl rfl rfl ?_
              refine Wl.guardF rfl rfl rfl rfl ?_
              refine Wl.guardU rfl rfl ?_
              refine Wl.guardU rfl rfl ?_
              refine Wl.guardU rfl rfl ?_
              refine Wl.guardF rfl rfl rfl rfl ?_
              refine wZ rg (o_pickT rfl rfl (v := .bool true) rfl (nZ ?_))
              refine Vc.cond' rfl (fun _ => ?_) (fun hb => Bool.noConfusion hb)
              refine qZ (rZ (asZ (.bool false) rfl (nZ ?_)))
              refine Vc.ret' ?_
              refine res_tmp (v := .bool false) rfl (res_nil ?_)
              show Gives _ (.bool false) _
              exact gives_out hrg (VW.refl _) (hQ _ h)
            replace h := h.1 hb12
            refine Wl.guardF rfl rfl hb12 rfl ?_
            refine Wl.guardF rfl rfl hb12 rfl ?_
            refine Wl.guardF rfl rfl hb12 rfl ?_
            refine wZ rg (o_pickT rfl hb12 (v := .bool true) rfl (mvZ (.bool true) rfl ?_))
            refine Wl.guardF rfl rfl rfl rfl ?_
            refine Wl.guardF rfl rfl rfl rfl ?_
            refine Wl.guardF rfl rfl rfl rfl ?_
            refine Wl.guardU rfl rfl ?_
            refine Wl.guardU rfl rfl ?_
            refine Wl.guardU rfl rfl ?_
            refine Wl.guardF rfl rfl rfl rfl ?_
            refine wZ rg (o_pickT rfl rfl (v := .bool true) rfl (mvZ (.bool true) rfl ?_))
            refine Wl.guardF rfl rfl rfl rfl ?_
            refine Wl.guardF rfl rfl rfl rfl ?_
            refine Wl.guardF rfl rfl rfl rfl ?_
            refine Wl.guardU rfl rfl ?_
            refine Wl.guardU rfl rfl ?_
            refine Wl.guardF rfl rfl rfl rfl ?_
            refine wZ rg (o_pickT rfl rfl (v := .bool true) rfl (mvZ (.bool true) rfl ?_))
            refine Wl.guardF rfl rfl rfl rfl ?_
            refine Wl.guardF rfl rfl rfl rfl ?_
            refine Wl.guardF rfl rfl rfl rfl ?_
            refine Wl.guardU rfl rfl ?_
            refine Wl.guardU rfl rfl ?_
            refine Wl.guardU rfl rfl ?_
            refine Wl.guardF rfl rfl rfl rfl ?_
            refine wZ rg (o_pickT rfl rfl (v := .bool true) rfl (nZ ?_))
            refine Vc.cond' rfl (fun _ => ?_) (fun hb => Bool.noConfusion hb)
            refine qZ (rZ (asZ (.bool false) rfl (nZ ?_)))
            refine Vc.ret' ?_
            refine res_tmp (v := .bool false) rfl (res_nil ?_)
            show Gives _ (.bool false) _
            exact gives_out hrg (VW.refl _) (hQ _ h)
          replace h := h.1 hb11
          refine Wl.guardF rfl rfl hb11 rfl ?_
          refine Wl.guardF rfl rfl hb11 rfl ?_
          refine Wl.guardF rfl rfl hb11 rfl ?_
          refine wZ rg (o_pickT rfl hb11 (v := .bool true) rfl (mvZ (.bool true) rfl ?_))
          refine Wl.guardF rfl rfl rfl rfl ?_
          refine Wl.guardF rfl rfl rfl rfl ?_
          refine Wl.guardF rfl rfl rfl rfl ?_
          refine Wl.guardF rfl rfl rfl rfl ?_
          refine wZ rg (o_pickT rfl rfl (v := .bool true) rfl (mvZ (.bool true) rfl ?_))
          refine Wl.guardF rfl rfl rfl rfl ?_
          refine Wl.guardF rfl rfl rfl rfl ?_
          refine Wl.guardF rfl rfl rfl rfl ?_
          refine Wl.guardU rfl rfl ?_
          refine Wl.guardU rfl rfl ?_
          refine Wl.guardU rfl rfl ?_
          refine Wl.guardF rfl rfl rfl rfl ?_
          refine wZ rg (o_pickT rfl rfl (v := .bool true) rfl (mvZ (.bool true) rfl ?_))
          refine Wl.guardF rfl rfl rfl rfl ?_
          refine Wl.guardF rfl rfl rfl rfl ?_
          refine Wl.guardF rfl rfl rfl rfl ?_
          refine Wl.guardU rfl rfl ?_
          refine Wl.guardU rfl rfl ?_
          refine Wl.guardF rfl rfl rfl rfl ?_
          refine wZ rg (o_pickT rfl rfl (v := .bool true) rfl (mvZ (.bool true) rfl ?_))
          refine Wl.guardF rfl rfl rfl rfl ?_
          refine Wl.guardF rfl rfl rfl rfl ?_
          refine Wl.guardF rfl rfl rfl rfl ?_
          refine Wl.guardU rfl rfl ?_
          refine Wl.guardU rfl rfl ?_
          refine Wl.guardU rfl rfl ?_
          refine Wl.guardF rfl rfl rfl rfl ?_
          refine wZ rg (o_pickT rfl rfl (v := .bool true) rfl (nZ ?_))
          refine Vc.cond' rfl (fun _ => ?_) (fun hb => Bool.noConfusion hb)
          refine qZ (rZ (asZ (.bool false) rfl (nZ ?_)))
          refine Vc.ret' ?_
          refine res_tmp (v := .bool false) rfl (res_nil ?_)
          show Gives _ (.bool false) _
          exact gives_out hrg (VW.refl _) (hQ _ h)
        refine qZ (rZ (mvZ (.int .i64 one) rfl (wZ rg (o_eql rfl rfl (mvZ (.bool (one == 0)) rfl ?_)))))
        refine Wl.guard rfl rfl (fun hb28 => ?_) (fun hb28 => ?_)
        · replace h := h.1 hb28
          refine mvZ (.int .i64 level) rfl ?_
          refine Wl.guardT rfl rfl hb28 ?_
          refine wZ rg (o_lss rfl rfl ?_)
          refine Wl.guardT rfl rfl hb28 ?_
          refine mvZ (.bool (decide (level < 0))) rfl ?_
          refine Wl.guard rfl rfl (fun hb29 => ?_) (fun hb29 => ?_)
          · replace h := h.2 hb29
            refine mvZ (.int .i64 level) rfl ?_
            refine Wl.guardT rfl rfl hb29 ?_
            refine mvZ (eL (AV.int .i64) a) rfl ?_
            refine Wl.guardT rfl rfl hb29 ?_
            refine wZ rg (o_len td25 rfl ?_)
            refine Wl.guardT rfl rfl hb29 ?_
            refine wZ rg (o_subG rfl rfl h.1 ?_)
            replace h := h.2
            refine Wl.guardT rfl rfl hb29 ?_
            refine wZ rg (o_gtr rfl rfl ?_)
            refine Wl.guardT rfl rfl hb28 ?_
            refine wZ rg (o_pickF rfl hb29 (v := .bool (decide (((a.length : Int) - 2) < level))) rfl (wZ rg (o_pickT rfl hb28 (v := .bool (decide (((a.length : Int) - 2) < level))) rfl (nZ ?_))))
            refine Vc.cond' rfl (fun hb30 => ?_) (fun hb30 => ?_)
            · replace h := h.1 hb30
              refine rZ ?_
              refine asZ (.int .i64 10) rfl (nZ ?_)
              exact ⟨10, (canon (fc vr (fc vr (fc vr (fc vr (fc vr (fc vr (fc vr (fc vr (fc vr (fc vr (fc vr (fc vr (fn))))))))))))) (sn)), h⟩
            replace h := h.2 hb30
            refine Vc.skip' ?_
            exact ⟨one, (canon (fc vr (fc vr (fc vr (fc vr (fc vr (fc vr (fc vr (fc vr (fc vr (fc vr (fc vr (fc vr (fn))))))))))))) (sn)), h⟩
          replace h := h.1 hb29
          refine Wl.guardF rfl rfl hb29 rfl ?_
          refine Wl.guardF rfl rfl hb29 rfl ?_
          refine Wl.guardF rfl rfl hb29 rfl ?_
          refine Wl.guardF rfl rfl hb29 rfl ?_
          refine Wl.guardT rfl rfl hb28 ?_
          refine wZ rg (o_pickT rfl hb29 (v := .bool true) rfl (wZ rg (o_pickT rfl hb28 (v := .bool true) rfl (nZ ?_))))
          refine Vc.cond' rfl (fun _ => ?_) (fun hb => Bool.noConfusion hb)
          refine rZ ?_
          refine asZ (.int .i64 10) rfl (nZ ?_)
          exact ⟨10, (canon (fc vr (fc vr (fc vr (fc vr (fc vr (fc vr (fc vr (fc vr (fc vr (fc vr (fc vr (fc vr (fn))))))))))))) (sn)), h⟩
        replace h := h.2 hb28
        refine Wl.guardF rfl rfl hb28 rfl ?_
        refine Wl.guardF rfl rfl hb28 rfl ?_
        refine Wl.guardU rfl rfl ?_
        refine Wl.guardU rfl rfl ?_
        refine Wl.guardU rfl rfl ?_
        refine Wl.guardU rfl rfl ?_
        refine Wl.guardU rfl rfl ?_
        refine Wl.guardF rfl rfl hb28 rfl ?_
        refine wZ rg (o_pickF rfl hb28 (v := .bool false) rfl (nZ ?_))
        refine Vc.cond' rfl (fun hb => Bool.noConfusion hb) (fun _ => ?_)
        refine Vc.skip' ?_
        exact ⟨one, (canon (fc vr (fc vr (fc vr (fc vr (fc vr (fc vr (fc vr (fc vr (fc vr (fc vr (fc vr (fc vr (fn))))))))))))) (sn)), h⟩
      refine qZ (rZ (mvZ (.int .i64 two) rfl (wZ rg (o_eql rfl rfl (mvZ (.bool (two == 0)) rfl ?_)))))
      refine Wl.guard rfl rfl (fun hb31 => ?_) (fun hb31 => ?_)
      · replace h := h.1 hb31
        refine mvZ (eL (AV.int .i64) a) rfl ?_
        refine Wl.guardT rfl rfl hb31 ?_
        refine wZ rg (o_len td25 rfl ?_)
        refine Wl.guardT rfl rfl hb31 ?_
        refine mvZ (eL (AV.int .i64) b) rfl ?_
        refine Wl.guardT rfl rfl hb31 ?_
        refine wZ rg (o_len td25 rfl ?_)
        refine Wl.guardT rfl rfl hb31 ?_
        refine wZ rg (o_neq rfl rfl (wZ rg (o_pickT rfl hb31 (v := .bool ((a.length : Int) != (b.length : Int))) rfl (nZ ?_))))
        refine Vc.cond' rfl (fun hb32 => ?_) (fun hb32 => ?_)
        · replace h := h.1 hb32
          refine rZ ?_
          refine asZ (.int .i64 11) rfl (nZ ?_)
          exact ⟨11, (canon (fc vr (fc vr (fc vr (fc vr (fc vr (fc vr (fc vr (fc vr (fc vr (fc vr (fc vr (fc vr (fn))))))))))))) (sn)), h⟩
        replace h := h.2 hb32
        refine Vc.skip' ?_
        exact ⟨two, (canon (fc vr (fc vr (fc vr (fc vr (fc vr (fc vr (fc vr (fc vr (fc vr (fc vr (fc vr (fc vr (fn))))))))))))) (sn)), h⟩
      replace h := h.2 hb31
      refine Wl.guardF rfl rfl hb31 rfl ?_
      refine Wl.guardF rfl rfl hb31 rfl ?_
      refine Wl.guardF rfl rfl hb31 rfl ?_
      refine Wl.guardF rfl rfl hb31 rfl ?_
      refine wZ rg (o_pickF rfl hb31 (v := .bool false) rfl (nZ ?_))
      refine Vc.cond' rfl (fun hb => Bool.noConfusion hb) (fun _ => ?_)
      refine Vc.skip' ?_
      exact ⟨two, (canon (fc vr (fc vr (fc vr (fc vr (fc vr (fc vr (fc vr (fc vr (fc vr (fc vr (fc vr (fc vr (fn))))))))))))) (sn)), h⟩
    refine qZ (rZ (mvZ (.int .i64 one) rfl (wZ rg (o_eql rfl rfl (nZ ?_)))))
    refine Vc.cond' rfl (fun hb33 => ?_) (fun hb33 => ?_)
    · replace h := h.1 hb33
      refine rZ ?_
      refine mvZ (eL (AV.int .i64) b) rfl (mvZ (eL (AV.int .i64) b) rfl (wZ rg (o_len td25 rfl (wZ rg (o_call (us := [eL (AV.int .i64) b, AV.int .i64 (b.length : Int)]) rfl (vl' vr (vl' vr (vn))) (ref14_Check_ctr h fun two2 h => (asZ (.int .i64 two2) rfl (nZ ?_))))))))
      exact ⟨two2, (canon (fc vr (fc vr (fc vr (fc vr (fc vr (fc vr (fc vr (fc vr (fc vr (fc vr (fc vr (fc vr (fn))))))))))))) (sn)), h⟩
    replace h := h.2 hb33
    refine Vc.skip' ?_
    exact ⟨one, (canon (fc vr (fc vr (fc vr (fc vr (fc vr (fc vr (fc vr (fc vr (fc vr (fc vr (fc vr (fc vr (fn))))))))))))) (sn)), h⟩
  refine rZ ?_
  refine wZ rg (o_call (us := []) rfl (vn) (law14_awake_ctr h fun r22 h => (wZ rg (o_not rfl (mvZ (.bool (!r22)) rfl ?_)))))
  refine Wl.guard rfl rfl (fun hb34 => ?_) (fun hb34 => ?_)
  · replace h := h.2 hb34
    refine mvZ (eL (AV.int .i64) a) rfl ?_
    refine Wl.guardT rfl rfl hb34 ?_
    refine wZ rg (o_len td25 rfl ?_)
    refine Wl.guardT rfl rfl hb34 ?_
    refine wZ rg (o_gtr rfl rfl (wZ rg (o_pickF rfl hb34 (v := .bool (decide (1000 < (a.length : Int)))) rfl (mvZ (.bool (decide (1000 < (a.length : Int)))) rfl ?_))))
    refine Wl.guard rfl rfl (fun hb35 => ?_) (fun hb35 => ?_)
    · replace h := h.2 hb35
      refine mvZ (eL (AV.int .i64) b) rfl ?_
      refine Wl.guardT rfl rfl hb35 ?_
      refine wZ rg (o_len td25 rfl ?_)
      refine Wl.guardT rfl rfl hb35 ?_
      refine wZ rg (o_gtr rfl rfl (wZ rg (o_pickF rfl hb35 (v := .bool (decide (1000 < (b.length : Int)))) rfl (nZ ?_))))
      exact ⟨(decide (1000 < (b.length : Int))), (canon (fc vr (fc vr (fc vr (fc vr (fn))))) (sn)), h⟩
    replace h := h.1 hb35
    refine Wl.guardF rfl rfl hb35 rfl ?_
    refine Wl.guardF rfl rfl hb35 rfl ?_
    refine wZ rg (o_pickT rfl hb35 (v := .bool true) rfl (nZ ?_))
    exact ⟨true, (canon (fc vr (fc vr (fc vr (fc vr (fn))))) (sn)), h⟩
  replace h := h.1 hb34
  refine Wl.guardF rfl rfl hb34 rfl ?_
  refine Wl.guardF rfl rfl hb34 rfl ?_
  refine wZ rg (o_pickT rfl hb34 (v := .bool true) rfl (mvZ (.bool true) rfl ?_))
  refine Wl.guardF rfl rfl rfl rfl ?_
  refine Wl.guardF rfl rfl rfl rfl ?_
  refine Wl.guardF rfl rfl rfl rfl ?_
  refine wZ rg (o_pickT rfl rfl (v := .bool true) rfl (nZ ?_))
  exact ⟨true, (canon (fc vr (fc vr (fc vr (fc vr (fn))))) (sn)), h⟩
end Go.Proofs.Ytiamkdpljeemkaa
