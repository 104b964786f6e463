/- Walks of functions. Conditions: none. -/
import Derived.Test.YtiamkdpljeemkaaWa
import Derived.Test.YtiamkdpljeemkaaGgTy
import Derived.Test.YtiamkdpljeemkaaK1
import Derived.Test.YtiamkdpljeemkaaK2
import Derived.Test.YtiamkdpljeemkaaK4
/- Walks of functions. Conditions: none. -/
namespace Go.Proofs.Ytiamkdpljeemkaa
open Go.Gg
set_option maxRecDepth 100000
set_option maxHeartbeats 4000000 in
theorem law14_OrderExchanges_ctr {a : List Int} {b : List Int} {level : Int} {Q : Bool → Prop} {S : St} {R : AV → St → Prop} (h : law14_OrderExchanges_W a b level Q) (hQ : ∀ r1, Q r1 → R (AV.bool r1) S) :
    Ctr Try.prog 13 [eL (AV.int .i64) a, eL (AV.int .i64) b, AV.int .i64 level] S R := by
  unfold law14_OrderExchanges_W at h
  refine enterT Try.func13 rfl Try.ntmps13 Try.results13 (by kernel_rfl) (fun rg hrg => ?_)
  refine qZ (rZ (asZ (.bool false) rfl (nZ (qZ ?_))))
  obtain ⟨J, h, hJ⟩ := h
  refine Vc.join' (σ := (Bool)) (fun y => J y) (fun y => envOf [(0, eL (AV.int .i64) a), (1, eL (AV.int .i64) b), (2, .int .i64 level), (40, .bool y)]) (fun y => stL S rg []) (fun x h => ?_) ?_
  · replace h := hJ x h
    show Vc _ _ _ _ (envOf [(0, eL (AV.int .i64) a), (1, eL (AV.int .i64) b), (2, .int .i64 level), (40, .bool x)]) (stL S rg [])
    refine Vc.cond' rfl (fun hb => ?_) (fun hb => ?_)
    · replace h := h.1 hb
      refine qZ (rZ (wZ rg (o_call (us := []) rfl (vn) (law14_awake_ctr h fun r h => (asZ (.bool r) rfl (nZ ?_))))))
      refine Vc.ret' ?_
      refine res_tmp (v := .bool r) rfl (res_nil ?_)
      show Gives _ (.bool r) _
      exact gives_out hrg (VW.refl _) (hQ _ h)
    replace h := h.2 hb
    refine Vc.skip' ?_
    refine qZ (rZ (mvZ (.int .i64 level) rfl (mvZ (eL (AV.int .i64) a) rfl (wZ rg (o_len td25 rfl (wZ rg (o_subG rfl rfl h.1 ?_)))))))
    replace h := h.2
    refine wZ rg (o_call (us := [AV.int .i64 level, AV.int .i64 0, AV.int .i64 ((a.length : Int) - 2)]) rfl (vl' vr (vl' vr (vl' vr (vn)))) (base_Clip_ctr h fun level1 h => (asZ (.int .i64 level1) rfl (nZ (qZ (rZ (mvZ (eL (AV.int .i64) a) rfl (mvZ (.int .i64 level1) rfl (wZ rg (o_call (us := [eL (AV.int .i64) a, AV.int .i64 level1]) rfl (vl' vr (vl' vr (vn))) (order_Exchange_ctr h fun r1 r2 h => ?_)))))))))))
    refine mvZ (.tuple [eL (AV.int .i64) r1, eErr 73 r2]) rfl (wZ rg (o_extract (v := eL (AV.int .i64) r1) rfl rfl rfl (wZ rg (o_extract (v := eErr 73 r2) rfl rfl rfl (asZ (eL (AV.int .i64) r1) rfl (asZ (eErr 73 r2) rfl (nZ (qZ (qZ (rZ (mvZ (eErr 73 r2) rfl (wZ rg (o_isnon td32 (E := 73) rfl rfl rfl (mvZ (.bool (Option.isSome r2)) rfl ?_))))))))))))))
    refine Wl.guard rfl rfl (fun hb1 => ?_) (fun hb1 => ?_)
    · replace h := h.2 hb1
      refine mvZ (eL (AV.int .i64) r1) rfl ?_
      refine Wl.guardT rfl rfl hb1 ?_
      refine wZ rg (o_call (us := [eL (AV.int .i64) r1]) rfl (vl' vr (vn)) (law14_valid_ctr h fun r3 h => ?_))
      refine Wl.guardT rfl rfl hb1 ?_
      refine wZ rg (o_not rfl (wZ rg (o_pickF rfl hb1 (v := .bool (!r3)) rfl (mvZ (.bool (!r3)) rfl ?_))))
      refine Wl.guard rfl rfl (fun hb2 => ?_) (fun hb2 => ?_)
      · replace h := h.2 hb2
        refine mvZ (eL (AV.int .i64) r1) rfl ?_
        refine Wl.guardT rfl rfl hb2 ?_
        refine wZ rg (o_len td25 rfl ?_)
        refine Wl.guardT rfl rfl hb2 ?_
        refine mvZ (eL (AV.int .i64) a) rfl ?_
        refine Wl.guardT rfl rfl hb2 ?_
        refine wZ rg (o_len td25 rfl ?_)
        refine Wl.guardT rfl rfl hb2 ?_
        refine wZ rg (o_neq rfl rfl (wZ rg (o_pickF rfl hb2 (v := .bool ((r1.length : Int) != (a.length : Int))) rfl (nZ ?_))))
        refine Vc.cond' rfl (fun hb3 => ?_) (fun hb3 => ?_)
        · replace h := h.1 hb3
          refine qZ (rZ (asZ (.bool false) rfl (nZ ?_)))
          refine Vc.ret' ?_
          refine res_tmp (v := .bool false) rfl (res_nil ?_)
          show Gives _ (.bool false) _
          exact gives_out hrg (VW.refl _) (hQ _ h)
        replace h := h.2 hb3
        refine Vc.skip' ?_
        refine qZ (rZ (mvZ (eL (AV.int .i64) r1) rfl (mvZ (.int .i64 level1) rfl (wZ rg (o_call (us := [eL (AV.int .i64) r1, AV.int .i64 level1]) rfl (vl' vr (vl' vr (vn))) (order_Exchange_ctr h fun r4 r5 h => (mvZ (.tuple [eL (AV.int .i64) r4, eErr 73 r5]) rfl (wZ rg (o_extract (v := eL (AV.int .i64) r4) rfl rfl rfl (wZ rg (o_extract (v := eErr 73 r5) rfl rfl rfl (asZ (eL (AV.int .i64) r4) rfl ?_))))))))))))
        refine asZ (eErr 73 r5) rfl (nZ (qZ (rZ (mvZ (eL (AV.int .i64) a) rfl (mvZ (eL (AV.int .i64) b) rfl (wZ rg (o_call (us := [eL (AV.int .i64) a, eL (AV.int .i64) b]) rfl (vl' vr (vl' vr (vn))) (order_Distance_ctr h fun r6 r7 h => (mvZ (.tuple [.int .i64 r6, eErr 73 r7]) rfl (wZ rg (o_extract (v := .int .i64 r6) rfl rfl rfl (wZ rg (o_extract (v := eErr 73 r7) rfl rfl rfl (asZ (.int .i64 r6) rfl ?_))))))))))))))
        refine asZ (eErr 73 r7) rfl (nZ (qZ (rZ (mvZ (eL (AV.int .i64) r1) rfl (mvZ (eL (AV.int .i64) b) rfl (wZ rg (o_call (us := [eL (AV.int .i64) r1, eL (AV.int .i64) b]) rfl (vl' vr (vl' vr (vn))) (order_Distance_ctr h fun r8 r9 h => (mvZ (.tuple [.int .i64 r8, eErr 73 r9]) rfl (wZ rg (o_extract (v := .int .i64 r8) rfl rfl rfl (wZ rg (o_extract (v := eErr 73 r9) rfl rfl rfl ?_)))))))))))))
        refine asZ (.int .i64 r8) rfl (asZ (eErr 73 r9) rfl (nZ (qZ (rZ (mvZ (eL (AV.int .i64) a) rfl (mvZ (eL (AV.int .i64) r1) rfl (wZ rg (o_call (us := [eL (AV.int .i64) a, eL (AV.int .i64) r1]) rfl (vl' vr (vl' vr (vn))) (order_Distance_ctr h fun r10 r11 h => (mvZ (.tuple [.int .i64 r10, eErr 73 r11]) rfl (wZ rg (o_extract (v := .int .i64 r10) rfl rfl rfl ?_))))))))))))
        refine wZ rg (o_extract (v := eErr 73 r11) rfl rfl rfl (asZ (.int .i64 r10) rfl (asZ (eErr 73 r11) rfl (nZ (qZ (rZ (mvZ (eErr 73 r5) rfl (wZ rg (o_isnil td32 (E := 73) rfl rfl rfl (mvZ (.bool (Option.isNone r5)) rfl ?_))))))))))
        refine Wl.guard rfl rfl (fun hb4 => ?_) (fun hb4 => ?_)
        · replace h := h.1 hb4
          refine mvZ (eErr 73 r7) rfl ?_
          refine Wl.guardT rfl rfl hb4 ?_
          refine wZ rg (o_isnil td32 (E := 73) rfl rfl rfl (wZ rg (o_pickT rfl hb4 (v := .bool (Option.isNone r7)) rfl (mvZ (.bool (Option.isNone r7)) rfl ?_))))
          refine Wl.guard rfl rfl (fun hb5 => ?_) (fun hb5 => ?_)
          · replace h := h.1 hb5
            refine mvZ (eErr 73 r9) rfl ?_
            refine Wl.guardT rfl rfl hb5 ?_
            refine wZ rg (o_isnil td32 (E := 73) rfl rfl rfl (wZ rg (o_pickT rfl hb5 (v := .bool (Option.isNone r9)) rfl (mvZ (.bool (Option.isNone r9)) rfl ?_))))
            refine Wl.guard rfl rfl (fun hb6 => ?_) (fun hb6 => ?_)
            · replace h := h.1 hb6
              refine mvZ (eErr 73 r11) rfl ?_
              refine Wl.guardT rfl rfl hb6 ?_
              refine wZ rg (o_isnil td32 (E := 73) rfl rfl rfl (wZ rg (o_pickT rfl hb6 (v := .bool (Option.isNone r11)) rfl (mvZ (.bool (Option.isNone r11)) rfl ?_))))
              refine Wl.guard rfl rfl (fun hb7 => ?_) (fun hb7 => ?_)
              · replace h := h.1 hb7
                refine mvZ (eL (AV.int .i64) r4) rfl ?_
                refine Wl.guardT rfl rfl hb7 ?_
                refine mvZ (eL (AV.int .i64) a) rfl ?_
                refine Wl.guardT rfl rfl hb7 ?_
                refine wZ rg (o_call (us := [eL (AV.int .i64) r4, eL (AV.int .i64) a]) rfl (vl' vr (vl' vr (vn))) (base_Ints_ctr h fun r12 h => (wZ rg (o_pickT rfl hb7 (v := .bool r12) rfl (mvZ (.bool r12) rfl ?_)))))
                refine Wl.guard rfl rfl (fun hb8 => ?_) (fun hb8 => ?_)
                · replace h := h.1 hb8
                  refine mvZ (.int .i64 r6) rfl ?_
                  refine Wl.guardT rfl rfl hb8 ?_
                  refine mvZ (.int .i64 r8) rfl ?_
                  refine Wl.guardT rfl rfl hb8 ?_
                  refine wZ rg (o_subG rfl rfl h.1 ?_)
                  replace h := h.2
                  refine Wl.guardT rfl rfl hb8 ?_
                  refine wZ rg (o_eql rfl rfl ?_)
                  refine Wl.guardT rfl rfl hb8 ?_
                  refine mvZ (.bool ((r6 - r8) == 1)) rfl ?_
                  refine Wl.guard rfl rfl (fun hb9 => ?_) (fun hb9 => ?_)
                  · replace h := h.2 hb9
                    refine mvZ (.int .i64 r8) rfl ?_
                    refine Wl.guardT rfl rfl hb9 ?_
                    refine mvZ (.int .i64 r6) rfl ?_
                    refine Wl.guardT rfl rfl hb9 ?_
                    refine wZ rg (o_subG rfl rfl h.1 ?_)
                    replace h := h.2
                    refine Wl.guardT rfl rfl hb9 ?_
                    refine wZ rg (o_eql rfl rfl ?_)
                    refine Wl.guardT rfl rfl hb8 ?_
                    refine wZ rg (o_pickF rfl hb9 (v := .bool ((r8 - r6) == 1)) rfl (wZ rg (o_pickT rfl hb8 (v := .bool ((r8 - r6) == 1)) rfl (mvZ (.bool ((r8 - r6) == 1)) rfl ?_))))
                    refine Wl.guard rfl rfl (fun hb10 => ?_) (fun hb10 => ?_)
                    · replace h := h.1 hb10
                      refine mvZ (.int .i64 r10) rfl ?_
                      refine Wl.guardT rfl rfl hb10 ?_
                      refine wZ rg (o_eql rfl rfl (wZ rg (o_pickT rfl hb10 (v := .bool (r10 == 1)) rfl (asZ (.bool (r10 == 1)) rfl (nZ ?_)))))
                      refine Vc.ret' ?_
                      refine res_tmp (v := .bool (r10 == 1)) rfl (res_nil ?_)
                      show Gives _ (.bool (r10 == 1)) _
                      exact gives_out hrg (VW.refl _) (hQ _ h)
                    replace h := h.2 hb10
                    refine Wl.guardF rfl rfl hb10 rfl ?_
                    refine wZ rg (o_pickF rfl hb10 (v := .bool false) rfl (asZ (.bool false) rfl (nZ ?_)))
                    refine Vc.ret' ?_
                    refine res_tmp (v := .bool false) rfl (res_nil ?_)
                    show Gives _ (.bool false) _
                    exact gives_out hrg (VW.refl _) (hQ _ h)
                  replace h := h.1 hb9
                  refine Wl.guardF rfl rfl hb9 rfl ?_
                  refine Wl.guardF rfl rfl hb9 rfl ?_
                  refine Wl.guardF rfl rfl hb9 rfl ?_
                  refine Wl.guardT rfl rfl hb8 ?_
                  refine wZ rg (o_pickT rfl hb9 (v := .bool true) rfl (wZ rg (o_pickT rfl hb8 (v := .bool true) rfl (mvZ (.bool true) rfl ?_))))
                  refine Wl.guardT rfl rfl rfl ?_
                  refine mvZ (.int .i64 r10) rfl ?_
                  refine Wl.guardT rfl rfl rfl ?_
                  refine wZ rg (o_eql rfl rfl (wZ rg (o_pickT rfl rfl (v := .bool (r10 == 1)) rfl (asZ (.bool (r10 == 1)) rfl (nZ ?_)))))
                  refine Vc.ret' ?_
                  refine res_tmp (v := .bool (r10 == 1)) rfl (res_nil ?_)
                  show Gives _ (.bool (r10 == 1)) _
                  exact gives_out hrg (VW.refl _) (hQ _ h)
                replace h := h.2 hb8
                refine Wl.guardF rfl rfl hb8 rfl ?_
                refine Wl.guardF rfl rfl hb8 rfl ?_
                refine Wl.guardF rfl rfl hb8 rfl ?_
                refine Wl.guardF rfl rfl hb8 rfl ?_
                refine Wl.guardU rfl rfl ?_
                refine Wl.guardU rfl rfl ?_
                refine Wl.guardU rfl rfl ?_
                refine Wl.guardU rfl rfl ?_
                refine Wl.guardF rfl rfl hb8 rfl ?_
                refine wZ rg (o_pickF rfl hb8 (v := .bool false) rfl (mvZ (.bool false) rfl ?_))
                refine Wl.guardF rfl rfl rfl rfl ?_
                refine Wl.guardF rfl rfl rfl rfl ?_
                refine wZ rg (o_pickF rfl rfl (v := .bool false) rfl (asZ (.bool false) rfl (nZ ?_)))
                refine Vc.ret' ?_
                refine res_tmp (v := .bool false) rfl (res_nil ?_)
                show Gives _ (.bool false) _
                exact gives_out hrg (VW.refl _) (hQ _ h)
              replace h := h.2 hb7
              refine Wl.guardF rfl rfl hb7 rfl ?_
              refine Wl.guardF rfl rfl hb7 rfl ?_
              refine wZ rg (o_pickF rfl hb7 (v := .bool false) rfl (mvZ (.bool false) rfl ?_))
              refine Wl.guardF rfl rfl rfl rfl ?_
              refine Wl.guardF rfl rfl rfl rfl ?_
              refine Wl.guardF rfl rfl rfl rfl ?_
              refine Wl.guardF rfl rfl rfl rfl ?_
              refine Wl.guardF rfl rfl rfl rfl ?_
              refine Wl.guardU rfl rfl ?_
              refine Wl.guardU rfl rfl ?_
              refine Wl.guardU rfl rfl ?_
              refine Wl.guardU rfl rfl ?_
              refine Wl.guardF rfl rfl rfl rfl ?_
              refine wZ rg (o_pickF rfl rfl (v := .bool false) rfl (mvZ (.bool false) rfl ?_))
              refine Wl.guardF rfl rfl rfl rfl ?_
              refine Wl.guardF rfl rfl rfl rfl ?_
              refine wZ rg (o_pickF rfl rfl (v := .bool false) rfl (asZ (.bool false) rfl (nZ ?_)))
              refine Vc.ret' ?_
              refine res_tmp (v := .bool false) rfl (res_nil ?_)
              show Gives _ (.bool false) _
              exact gives_out hrg (VW.refl _) (hQ _ h)
            replace h := h.2 hb6
            refine Wl.guardF rfl rfl hb6 rfl ?_
            refine wZ rg (o_pickF rfl hb6 (v := .bool false) rfl (mvZ (.bool false) rfl ?_))
            refine Wl.guardF rfl rfl rfl rfl ?_
            refine Wl.guardF rfl rfl rfl rfl ?_
            refine Wl.guardF rfl rfl rfl rfl ?_
            refine wZ rg (o_pickF rfl rfl (v := .bool false) rfl (mvZ (.bool false) rfl ?_))
            refine Wl.guardF rfl rfl rfl rfl ?_
            refine Wl.guardF rfl rfl rfl rfl ?_
            refine Wl.guardF rfl rfl rfl rfl ?_
            refine Wl.guardF rfl rfl rfl rfl ?_
            refine Wl.guardF rfl rfl rfl rfl ?_
            refine Wl.guardU rfl rfl ?_
            refine Wl.guardU rfl rfl ?_
            refine Wl.guardU rfl rfl ?_
            refine Wl.guardU rfl rfl ?_
            refine Wl.guardF rfl rfl rfl rfl ?_
            refine wZ rg (o_pickF rfl rfl (v := .bool false) rfl (mvZ (.bool false) rfl ?_))
            refine Wl.guardF rfl rfl rfl rfl ?_
            refine Wl.guardF rfl rfl rfl rfl ?_
            refine wZ rg (o_pickF rfl rfl (v := .bool false) rfl (asZ (.bool false) rfl (nZ ?_)))
            refine Vc.ret' ?_
            refine res_tmp (v := .bool false) rfl (res_nil ?_)
            show Gives _ (.bool false) _
            exact gives_out hrg (VW.refl _) (hQ _ h)
          replace h := h.2 hb5
          refine Wl.guardF rfl rfl hb5 rfl ?_
          refine wZ rg (o_pickF rfl hb5 (v := .bool false) rfl (mvZ (.bool false) rfl ?_))
          refine Wl.guardF rfl rfl rfl rfl ?_
          refine Wl.guardF rfl rfl rfl rfl ?_
          refine wZ rg (o_pickF rfl rfl (v := .bool false) rfl (mvZ (.bool false) rfl ?_))
          refine Wl.guardF rfl rfl rfl rfl ?_
          refine Wl.guardF rfl rfl rfl rfl ?_
          refine Wl.guardF rfl rfl rfl rfl ?_
          refine wZ rg (o_pickF rfl rfl (v := .bool false) rfl (mvZ (.bool false) rfl ?_))
          refine Wl.guardF rfl rfl rfl rfl ?_
          refine Wl.guardF rfl rfl rfl rfl ?_
          refine Wl.guardF rfl rfl rfl rfl ?_
          refine Wl.guardF rfl rfl rfl rfl ?_
          refine Wl.guardF rfl rfl rfl rfl ?_
          refine Wl.guardU rfl rfl ?_
          refine Wl.guardU rfl rfl ?_
          refine Wl.guardU rfl rfl ?_
          refine Wl.guardU rfl rfl ?_
          refine Wl.guardF rfl rfl rfl rfl ?_
          refine wZ rg (o_pickF rfl rfl (v := .bool false) rfl (mvZ (.bool false) rfl ?_))
          refine Wl.guardF rfl rfl rfl rfl ?_
          refine Wl.guardF rfl rfl rfl rfl ?_
          refine wZ rg (o_pickF rfl rfl (v := .bool false) rfl (asZ (.bool false) rfl (nZ ?_)))
          refine Vc.ret' ?_
          refine res_tmp (v := .bool false) rfl (res_nil ?_)
          show Gives _ (.bool false) _
          exact gives_out hrg (VW.refl _) (hQ _ h)
        replace h := h.2 hb4
        refine Wl.guardF rfl rfl hb4 rfl ?_
        refine wZ rg (o_pickF rfl hb4 (v := .bool false) rfl (mvZ (.bool false) rfl ?_))
        refine Wl.guardF rfl rfl rfl rfl ?_
        refine Wl.guardF rfl rfl rfl rfl ?_
        refine wZ rg (o_pickF rfl rfl (v := .bool false) rfl (mvZ (.bool false) rfl ?_))
        refine Wl.guardF rfl rfl rfl rfl ?_
        refine Wl.guardF rfl rfl rfl rfl ?_
        refine wZ rg (o_pickF rfl rfl (v := .bool false) rfl (mvZ (.bool false) rfl ?_))
        refine Wl.guardF rfl rfl rfl rfl ?_
        refine Wl.guardF rfl rfl rfl rfl ?_
        refine Wl.guardF rfl rfl rfl rfl ?_
        refine wZ rg (o_pickF rfl rfl (v := .bool false) rfl (mvZ (.bool false) rfl ?_))
        refine Wl.guardF rfl rfl rfl rfl ?_
        refine Wl.guardF rfl rfl rfl rfl ?_
        refine Wl.guardF rfl rfl rfl rfl ?_
        refine Wl.guardF rfl rfl rfl rfl ?_
        refine Wl.guardF rfl rfl rfl rfl ?_
        refine Wl.guardU rfl rfl ?_
        refine Wl.guardU rfl rfl ?_
        refine Wl.guardU rfl rfl ?_
        refine Wl.guardU rfl rfl ?_
        refine Wl.guardF rfl rfl rfl rfl ?_
        refine wZ rg (o_pickF rfl rfl (v := .bool false) rfl (mvZ (.bool false) rfl ?_))
        refine Wl.guardF rfl rfl rfl rfl ?_
        refine Wl.guardF rfl rfl rfl rfl ?_
        refine wZ rg (o_pickF rfl rfl (v := .bool false) rfl (asZ (.bool false) rfl (nZ ?_)))
        refine Vc.ret' ?_
        refine res_tmp (v := .bool false) rfl (res_nil ?_)
        show Gives _ (.bool false) _
        exact gives_out hrg (VW.refl _) (hQ _ h)
      replace h := h.1 hb2
      refine Wl.guardF rfl rfl hb2 rfl ?_
      refine Wl.guardF rfl rfl hb2 rfl ?_
      refine Wl.guardF rfl rfl hb2 rfl ?_
      refine Wl.guardF rfl rfl hb2 rfl ?_
      refine wZ rg (o_pickT rfl hb2 (v := .bool true) rfl (nZ ?_))
      refine Vc.cond' rfl (fun _ => ?_) (fun hb => Bool.noConfusion hb)
      refine qZ (rZ (asZ (.bool false) rfl (nZ ?_)))
      refine Vc.ret' ?_
      refine res_tmp (v := .bool false) rfl (res_nil ?_)
      show Gives _ (.bool false) _
      exact gives_out hrg (VW.refl _) (hQ _ h)
    replace h := h.1 hb1
    refine Wl.guardF rfl rfl hb1 rfl ?_
    refine Wl.guardF rfl rfl hb1 rfl ?_
    refine wZ rg (o_pickT rfl hb1 (v := .bool true) rfl (mvZ (.bool true) rfl ?_))
    refine Wl.guardF rfl rfl rfl rfl ?_
    refine Wl.guardF rfl rfl rfl rfl ?_
    refine Wl.guardF rfl rfl rfl rfl ?_
    refine Wl.guardF rfl rfl rfl rfl ?_
    refine Wl.guardF rfl rfl rfl rfl ?_
    refine wZ rg (o_pickT rfl rfl (v := .bool true) rfl (nZ ?_))
    refine Vc.cond' rfl (fun _ => ?_) (fun hb => Bool.noConfusion hb)
    refine qZ (rZ (asZ (.bool false) rfl (nZ ?_)))
    refine Vc.ret' ?_
    refine res_tmp (v := .bool false) rfl (res_nil ?_)
    show Gives _ (.bool false) _
    exact gives_out hrg (VW.refl _) (hQ _ h)
  refine rZ ?_
  refine wZ rg (o_call (us := []) rfl (vn) (law14_awake_ctr h fun r13 h => (wZ rg (o_not rfl (mvZ (.bool (!r13)) rfl ?_)))))
  refine Wl.guard rfl rfl (fun hb11 => ?_) (fun hb11 => ?_)
  · replace h := h.2 hb11
    refine mvZ (eL (AV.int .i64) a) rfl ?_
    refine Wl.guardT rfl rfl hb11 ?_
    refine wZ rg (o_call (us := [eL (AV.int .i64) a]) rfl (vl' vr (vn)) (law14_valid_ctr h fun r14 h => ?_))
    refine Wl.guardT rfl rfl hb11 ?_
    refine wZ rg (o_not rfl (wZ rg (o_pickF rfl hb11 (v := .bool (!r14)) rfl (mvZ (.bool (!r14)) rfl ?_))))
    refine Wl.guard rfl rfl (fun hb12 => ?_) (fun hb12 => ?_)
    · replace h := h.2 hb12
      refine mvZ (eL (AV.int .i64) b) rfl ?_
      refine Wl.guardT rfl rfl hb12 ?_
      refine wZ rg (o_call (us := [eL (AV.int .i64) b]) rfl (vl' vr (vn)) (law14_valid_ctr h fun r15 h => ?_))
      refine Wl.guardT rfl rfl hb12 ?_
      refine wZ rg (o_not rfl (wZ rg (o_pickF rfl hb12 (v := .bool (!r15)) rfl (mvZ (.bool (!r15)) rfl ?_))))
      refine Wl.guard rfl rfl (fun hb13 => ?_) (fun hb13 => ?_)
      · replace h := h.2 hb13
        refine mvZ (eL (AV.int .i64) a) rfl ?_
        refine Wl.guardT rfl rfl hb13 ?_
        refine wZ rg (o_len td25 rfl ?_)
        refine Wl.guardT rfl rfl hb13 ?_
        refine mvZ (eL (AV.int .i64) b) rfl ?_
        refine Wl.guardT rfl rfl hb13 ?_
        refine wZ rg (o_len td25 rfl ?_)
        refine Wl.guardT rfl rfl hb13 ?_
        refine wZ rg (o_neq rfl rfl (wZ rg (o_pickF rfl hb13 (v := .bool ((a.length : Int) != (b.length : Int))) rfl (mvZ (.bool ((a.length : Int) != (b.length : Int))) rfl ?_))))
        refine Wl.guard rfl rfl (fun hb14 => ?_) (fun hb14 => ?_)
        · replace h := h.2 hb14
          refine mvZ (eL (AV.int .i64) a) rfl ?_
          refine Wl.guardT rfl rfl hb14 ?_
          refine wZ rg (o_len td25 rfl ?_)
          refine Wl.guardT rfl rfl hb14 ?_
          refine wZ rg (o_lss rfl rfl (wZ rg (o_pickF rfl hb14 (v := .bool (decide ((a.length : Int) < 2))) rfl (nZ ?_))))
          exact ⟨(decide ((a.length : Int) < 2)), (canon (fc vr (fc vr (fc vr (fc vr (fn))))) (sn)), h⟩
        replace h := h.1 hb14
        refine Wl.guardF rfl rfl hb14 rfl ?_
        refine Wl.guardF rfl rfl hb14 rfl ?_
        refine wZ rg (o_pickT rfl hb14 (v := .bool true) rfl (nZ ?_))
        exact ⟨true, (canon (fc vr (fc vr (fc vr (fc vr (fn))))) (sn)), h⟩
      replace h := h.1 hb13
      refine Wl.guardF rfl rfl hb13 rfl ?_
      refine Wl.guardF rfl rfl hb13 rfl ?_
      refine Wl.guardF rfl rfl hb13 rfl ?_
      refine Wl.guardF rfl rfl hb13 rfl ?_
      refine wZ rg (o_pickT rfl hb13 (v := .bool true) rfl (mvZ (.bool true) rfl ?_))
      refine Wl.guardF rfl rfl rfl rfl ?_
      refine Wl.guardF rfl rfl rfl rfl ?_
      refine Wl.guardF rfl rfl rfl rfl ?_
      refine wZ rg (o_pickT rfl rfl (v := .bool true) rfl (nZ ?_))
      exact ⟨true, (canon (fc vr (fc vr (fc vr (fc vr (fn))))) (sn)), h⟩
    replace h := h.1 hb12
    refine Wl.guardF rfl rfl hb12 rfl ?_
    refine Wl.guardF rfl rfl hb12 rfl ?_
    refine wZ rg (o_pickT rfl hb12 (v := .bool true) rfl (mvZ (.bool true) rfl ?_))
    refine Wl.guardF rfl rfl rfl rfl ?_
    refine Wl.guardF rfl rfl rfl rfl ?_
    refine Wl.guardF rfl rfl rfl rfl ?_
    refine Wl.guardF rfl rfl rfl rfl ?_
    refine Wl.guardF rfl rfl rfl rfl ?_
    refine wZ rg (o_pickT rfl rfl (v := .bool true) rfl (mvZ (.bool true) rfl ?_))
    refine Wl.guardF rfl rfl rfl rfl ?_
    refine Wl.guardF rfl rfl rfl rfl ?_
    refine Wl.guardF rfl rfl rfl rfl ?_
    refine wZ rg (o_pickT rfl rfl (v := .bool true) rfl (nZ ?_))
    exact ⟨true, (canon (fc vr (fc vr (fc vr (fc vr (fn))))) (sn)), h⟩
  replace h := h.1 hb11
  refine Wl.guardF rfl rfl hb11 rfl ?_
  refine Wl.guardF rfl rfl hb11 rfl ?_
  refine wZ rg (o_pickT rfl hb11 (v := .bool true) rfl (mvZ (.bool true) rfl ?_))
  refine Wl.guardF rfl rfl rfl rfl ?_
  refine Wl.guardF rfl rfl rfl rfl ?_
  refine Wl.guardF rfl rfl rfl rfl ?_
  refine wZ rg (o_pickT rfl rfl (v := .bool true) rfl (mvZ (.bool true) rfl ?_))
  refine Wl.guardF rfl rfl rfl rfl ?_
  refine Wl.guardF rfl rfl rfl rfl ?_
  refine Wl.guardF rfl rfl rfl rfl ?_
  refine Wl.guardF rfl rfl rfl rfl ?_
  refine Wl.guardF rfl rfl rfl rfl ?_
  refine wZ rg (o_pickT rfl rfl (v := .bool true) rfl (mvZ (.bool true) rfl ?_))
  refine Wl.guardF rfl rfl rfl rfl ?_
  refine Wl.guardF rfl rfl rfl rfl ?_
  refine Wl.guardF rfl rfl rfl rfl ?_
  refine wZ rg (o_pickT rfl rfl (v := .bool true) rfl (nZ ?_))
  exact ⟨true, (canon (fc vr (fc vr (fc vr (fc vr (fn))))) (sn)), h⟩
end Go.Proofs.Ytiamkdpljeemkaa
