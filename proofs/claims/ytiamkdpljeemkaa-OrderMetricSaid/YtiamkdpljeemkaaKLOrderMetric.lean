/- Walks of functions. Conditions: none. -/
import Derived.Test.YtiamkdpljeemkaaWa
import Derived.Test.YtiamkdpljeemkaaGgTy
import Derived.Test.YtiamkdpljeemkaaK1
import Derived.Test.YtiamkdpljeemkaaK2
/- Walks of functions. Conditions: none. -/
namespace Go.Proofs.Ytiamkdpljeemkaa
open Go.Gg
set_option maxRecDepth 100000
set_option maxHeartbeats 4000000 in
theorem law14_OrderMetric_ctr {a : List Int} {b : List Int} {c : List Int} {Q : Bool → Prop} {S : St} {R : AV → St → Prop} (h : law14_OrderMetric_W a b c Q) (hQ : ∀ r1, Q r1 → R (AV.bool r1) S) :
    Ctr Try.prog 10 [eL (AV.int .i64) a, eL (AV.int .i64) b, eL (AV.int .i64) c] S R := by
  unfold law14_OrderMetric_W at h
  refine enterT Try.func10 rfl Try.ntmps10 Try.results10 (by kernel_rfl) (fun rg hrg => ?_)
  refine qZ (rZ (asZ (.bool false) rfl (nZ (qZ ?_))))
  obtain ⟨J, h, hJ⟩ := h
  refine Vc.join' (σ := (Bool)) (fun y => J y) (fun y => envOf [(0, eL (AV.int .i64) a), (1, eL (AV.int .i64) b), (2, eL (AV.int .i64) c), (45, .bool y)]) (fun y => stL S rg []) (fun x h => ?_) ?_
  · replace h := hJ x h
    show Vc _ _ _ _ (envOf [(0, eL (AV.int .i64) a), (1, eL (AV.int .i64) b), (2, eL (AV.int .i64) c), (45, .bool x)]) (stL S rg [])
    refine Vc.cond' rfl (fun hb => ?_) (fun hb => ?_)
    · replace h := h.1 hb
      refine qZ (rZ (wZ rg (o_call (us := []) rfl (vn) (law14_awake_ctr h fun r h => (asZ (.bool r) rfl (nZ ?_))))))
      refine Vc.ret' ?_
      refine res_tmp (v := .bool r) rfl (res_nil ?_)
      show Gives _ (.bool r) _
      exact gives_out hrg (VW.refl _) (hQ _ h)
    replace h := h.2 hb
    refine Vc.skip' ?_
    refine qZ (rZ (mvZ (eL (AV.int .i64) a) rfl (mvZ (eL (AV.int .i64) b) rfl (wZ rg (o_call (us := [eL (AV.int .i64) a, eL (AV.int .i64) b]) rfl (vl' vr (vl' vr (vn))) (order_Distance_ctr h fun r1 r2 h => (mvZ (.tuple [.int .i64 r1, eErr 73 r2]) rfl (wZ rg (o_extract (v := .int .i64 r1) rfl rfl rfl (wZ rg (o_extract (v := eErr 73 r2) rfl rfl rfl (asZ (.int .i64 r1) rfl (asZ (eErr 73 r2) rfl (nZ ?_))))))))))))))
    refine qZ (rZ (mvZ (eL (AV.int .i64) b) rfl (mvZ (eL (AV.int .i64) c) rfl (wZ rg (o_call (us := [eL (AV.int .i64) b, eL (AV.int .i64) c]) rfl (vl' vr (vl' vr (vn))) (order_Distance_ctr h fun r3 r4 h => (mvZ (.tuple [.int .i64 r3, eErr 73 r4]) rfl (wZ rg (o_extract (v := .int .i64 r3) rfl rfl rfl (wZ rg (o_extract (v := eErr 73 r4) rfl rfl rfl (asZ (.int .i64 r3) rfl (asZ (eErr 73 r4) rfl (nZ ?_))))))))))))))
    refine qZ (rZ (mvZ (eL (AV.int .i64) a) rfl (mvZ (eL (AV.int .i64) c) rfl (wZ rg (o_call (us := [eL (AV.int .i64) a, eL (AV.int .i64) c]) rfl (vl' vr (vl' vr (vn))) (order_Distance_ctr h fun r5 r6 h => (mvZ (.tuple [.int .i64 r5, eErr 73 r6]) rfl (wZ rg (o_extract (v := .int .i64 r5) rfl rfl rfl (wZ rg (o_extract (v := eErr 73 r6) rfl rfl rfl (asZ (.int .i64 r5) rfl (asZ (eErr 73 r6) rfl (nZ ?_))))))))))))))
    refine qZ (rZ (mvZ (eL (AV.int .i64) b) rfl (mvZ (eL (AV.int .i64) a) rfl (wZ rg (o_call (us := [eL (AV.int .i64) b, eL (AV.int .i64) a]) rfl (vl' vr (vl' vr (vn))) (order_Distance_ctr h fun r7 r8 h => (mvZ (.tuple [.int .i64 r7, eErr 73 r8]) rfl (wZ rg (o_extract (v := .int .i64 r7) rfl rfl rfl (wZ rg (o_extract (v := eErr 73 r8) rfl rfl rfl (asZ (.int .i64 r7) rfl (asZ (eErr 73 r8) rfl (nZ ?_))))))))))))))
    refine qZ (qZ (rZ (mvZ (eErr 73 r2) rfl (wZ rg (o_isnon td32 (E := 73) rfl rfl rfl (mvZ (.bool (Option.isSome r2)) rfl ?_))))))
    refine Wl.guard rfl rfl (fun hb1 => ?_) (fun hb1 => ?_)
    · replace h := h.2 hb1
      refine mvZ (eErr 73 r4) rfl ?_
      refine Wl.guardT rfl rfl hb1 ?_
      refine wZ rg (o_isnon td32 (E := 73) rfl rfl rfl (wZ rg (o_pickF rfl hb1 (v := .bool (Option.isSome r4)) rfl (mvZ (.bool (Option.isSome r4)) rfl ?_))))
      refine Wl.guard rfl rfl (fun hb2 => ?_) (fun hb2 => ?_)
      · replace h := h.2 hb2
        refine mvZ (eErr 73 r6) rfl ?_
        refine Wl.guardT rfl rfl hb2 ?_
        refine wZ rg (o_isnon td32 (E := 73) rfl rfl rfl (wZ rg (o_pickF rfl hb2 (v := .bool (Option.isSome r6)) rfl (mvZ (.bool (Option.isSome r6)) rfl ?_))))
        refine Wl.guard rfl rfl (fun hb3 => ?_) (fun hb3 => ?_)
        · replace h := h.2 hb3
          refine mvZ (eErr 73 r8) rfl ?_
          refine Wl.guardT rfl rfl hb3 ?_
          refine wZ rg (o_isnon td32 (E := 73) rfl rfl rfl (wZ rg (o_pickF rfl hb3 (v := .bool (Option.isSome r8)) rfl (nZ ?_))))
          refine Vc.cond' rfl (fun hb4 => ?_) (fun hb4 => ?_)
          · replace h := h.1 hb4
            refine qZ (rZ (asZ (.bool false) rfl (nZ ?_)))
            refine Vc.ret' ?_
            refine res_tmp (v := .bool false) rfl (res_nil ?_)
            show Gives _ (.bool false) _
            exact gives_out hrg (VW.refl _) (hQ _ h)
          replace h := h.2 hb4
          refine Vc.skip' ?_
          refine qZ (rZ (mvZ (.int .i64 r1) rfl (mvZ (.int .i64 r7) rfl (wZ rg (o_eql rfl rfl (mvZ (.bool (r1 == r7)) rfl ?_))))))
          refine Wl.guard rfl rfl (fun hb5 => ?_) (fun hb5 => ?_)
          · replace h := h.1 hb5
            refine mvZ (.int .i64 r1) rfl ?_
            refine Wl.guardT rfl rfl hb5 ?_
            refine wZ rg (o_geq rfl rfl (wZ rg (o_pickT rfl hb5 (v := .bool (decide (0 ≤ r1))) rfl (mvZ (.bool (decide (0 ≤ r1))) rfl ?_))))
            refine Wl.guard rfl rfl (fun hb6 => ?_) (fun hb6 => ?_)
            · replace h := h.1 hb6
              refine mvZ (.int .i64 r1) rfl ?_
              refine Wl.guardT rfl rfl hb6 ?_
              refine mvZ (eL (AV.int .i64) a) rfl ?_
              refine Wl.guardT rfl rfl hb6 ?_
              refine wZ rg (o_len td25 rfl ?_)
              refine Wl.guardT rfl rfl hb6 ?_
              refine mvZ (eL (AV.int .i64) a) rfl ?_
              refine Wl.guardT rfl rfl hb6 ?_
              refine wZ rg (o_len td25 rfl ?_)
              refine Wl.guardT rfl rfl hb6 ?_
              refine wZ rg (o_subG rfl rfl h.1 ?_)
              replace h := h.2
              refine Wl.guardT rfl rfl hb6 ?_
              refine wZ rg (o_mulG rfl rfl h.1 ?_)
              replace h := h.2
              refine Wl.guardT rfl rfl hb6 ?_
              refine wZ rg (o_quoG rfl rfl ⟨by decide, h.1⟩ ?_)
              replace h := h.2
              refine Wl.guardT rfl rfl hb6 ?_
              refine wZ rg (o_leq rfl rfl (wZ rg (o_pickT rfl hb6 (v := .bool (decide (r1 ≤ (Int.tdiv ((a.length : Int) * ((a.length : Int) - 1)) 2)))) rfl (mvZ (.bool (decide (r1 ≤ (Int.tdiv ((a.length : Int) * ((a.length : Int) - 1)) 2)))) rfl ?_))))
              refine Wl.guard rfl rfl (fun hb7 => ?_) (fun hb7 => ?_)
              · replace h := h.1 hb7
                refine mvZ (.int .i64 r5) rfl ?_
                refine Wl.guardT rfl rfl hb7 ?_
                refine mvZ (.int .i64 r1) rfl ?_
                refine Wl.guardT rfl rfl hb7 ?_
                refine mvZ (.int .i64 r3) rfl ?_
                refine Wl.guardT rfl rfl hb7 ?_
                refine wZ rg (o_addG rfl rfl h.1 ?_)
                replace h := h.2
                refine Wl.guardT rfl rfl hb7 ?_
                refine wZ rg (o_leq rfl rfl (wZ rg (o_pickT rfl hb7 (v := .bool (decide (r5 ≤ (r1 + r3)))) rfl (mvZ (.bool (decide (r5 ≤ (r1 + r3)))) rfl ?_))))
                refine Wl.guard rfl rfl (fun hb8 => ?_) (fun hb8 => ?_)
                · replace h := h.1 hb8
                  refine mvZ (.int .i64 r1) rfl ?_
                  refine Wl.guardT rfl rfl hb8 ?_
                  refine wZ rg (o_eql rfl rfl ?_)
                  refine Wl.guardT rfl rfl hb8 ?_
                  refine mvZ (eL (AV.int .i64) a) rfl ?_
                  refine Wl.guardT rfl rfl hb8 ?_
                  refine mvZ (eL (AV.int .i64) b) rfl ?_
                  refine Wl.guardT rfl rfl hb8 ?_
                  refine wZ rg (o_call (us := [eL (AV.int .i64) a, eL (AV.int .i64) b]) rfl (vl' vr (vl' vr (vn))) (base_Ints_ctr h fun r9 h => ?_))
                  refine Wl.guardT rfl rfl hb8 ?_
                  refine wZ rg (o_eqlB td4 rfl rfl (wZ rg (o_pickT rfl hb8 (v := .bool ((r1 == 0) == r9)) rfl (asZ (.bool ((r1 == 0) == r9)) rfl (nZ ?_)))))
                  refine Vc.ret' ?_
                  refine res_tmp (v := .bool ((r1 == 0) == r9)) rfl (res_nil ?_)
                  show Gives _ (.bool ((r1 == 0) == r9)) _
                  exact gives_out hrg (VW.refl _) (hQ _ h)
                replace h := h.2 hb8
                refine Wl.guardF rfl rfl hb8 rfl ?_
                refine Wl.guardF rfl rfl hb8 rfl ?_
                refine Wl.guardF rfl rfl hb8 rfl ?_
                refine Wl.guardF rfl rfl hb8 rfl ?_
                refine Wl.guardF rfl rfl hb8 rfl ?_
                refine wZ rg (o_pickF rfl hb8 (v := .bool false) rfl (asZ (.bool false) rfl (nZ ?_)))
                refine Vc.ret' ?_
                refine res_tmp (v := .bool false) rfl (res_nil ?_)
                show Gives _ (.bool false) _
                exact gives_out hrg (VW.refl _) (hQ _ h)
              replace h := h.2 hb7
              refine Wl.guardF rfl rfl hb7 rfl ?_
              refine Wl.guardF rfl rfl hb7 rfl ?_
              refine Wl.guardF rfl rfl hb7 rfl ?_
              refine Wl.guardF rfl rfl hb7 rfl ?_
              refine wZ rg (o_pickF rfl hb7 (v := .bool false) rfl (mvZ (.bool false) rfl ?_))
              refine Wl.guardF rfl rfl rfl rfl ?_
              refine Wl.guardF rfl rfl rfl rfl ?_
              refine Wl.guardF rfl rfl rfl rfl ?_
              refine Wl.guardF rfl rfl rfl rfl ?_
              refine Wl.guardF rfl rfl rfl rfl ?_
              refine Wl.guardF rfl rfl rfl rfl ?_
              refine wZ rg (o_pickF rfl rfl (v := .bool false) rfl (asZ (.bool false) rfl (nZ ?_)))
              refine Vc.ret' ?_
              refine res_tmp (v := .bool false) rfl (res_nil ?_)
              show Gives _ (.bool false) _
              exact gives_out hrg (VW.refl _) (hQ _ h)
            replace h := h.2 hb6
            refine Wl.guardF rfl rfl hb6 rfl ?_
            refine Wl.guardF rfl rfl hb6 rfl ?_
            refine Wl.guardF rfl rfl hb6 rfl ?_
            refine Wl.guardF rfl rfl hb6 rfl ?_
            refine Wl.guardF rfl rfl hb6 rfl ?_
            refine Wl.guardF rfl rfl hb6 rfl ?_
            refine Wl.guardF rfl rfl hb6 rfl ?_
            refine Wl.guardF rfl rfl hb6 rfl ?_
            refine wZ rg (o_pickF rfl hb6 (v := .bool false) rfl (mvZ (.bool false) rfl ?_))
            refine Wl.guardF rfl rfl rfl rfl ?_
            refine Wl.guardF rfl rfl rfl rfl ?_
            refine Wl.guardF rfl rfl rfl rfl ?_
            refine Wl.guardF rfl rfl rfl rfl ?_
            refine Wl.guardF rfl rfl rfl rfl ?_
            refine wZ rg (o_pickF rfl rfl (v := .bool false) rfl (mvZ (.bool false) rfl ?_))
            refine Wl.guardF rfl rfl rfl rfl ?_
            refine Wl.guardF rfl rfl rfl rfl ?_
            refine Wl.guardF rfl rfl rfl rfl ?_
            refine Wl.guardF rfl rfl rfl rfl ?_
            refine Wl.guardF rfl rfl rfl rfl ?_
            refine Wl.guardF rfl rfl rfl rfl ?_
            refine wZ rg (o_pickF rfl rfl (v := .bool false) rfl (asZ (.bool false) rfl (nZ ?_)))
            refine Vc.ret' ?_
            refine res_tmp (v := .bool false) rfl (res_nil ?_)
            show Gives _ (.bool false) _
            exact gives_out hrg (VW.refl _) (hQ _ h)
          replace h := h.2 hb5
          refine Wl.guardF rfl rfl hb5 rfl ?_
          refine wZ rg (o_pickF rfl hb5 (v := .bool false) rfl (mvZ (.bool false) rfl ?_))
          refine Wl.guardF rfl rfl rfl rfl ?_
          refine Wl.guardF rfl rfl rfl rfl ?_
          refine Wl.guardF rfl rfl rfl rfl ?_
          refine Wl.guardF rfl rfl rfl rfl ?_
          refine Wl.guardF rfl rfl rfl rfl ?_
          refine Wl.guardF rfl rfl rfl rfl ?_
          refine Wl.guardF rfl rfl rfl rfl ?_
          refine Wl.guardF rfl rfl rfl rfl ?_
          refine Wl.guardF rfl rfl rfl rfl ?_
          refine wZ rg (o_pickF rfl rfl (v := .bool false) rfl (mvZ (.bool false) rfl ?_))
          refine Wl.guardF rfl rfl rfl rfl ?_
          refine Wl.guardF rfl rfl rfl rfl ?_
          refine Wl.guardF rfl rfl rfl rfl ?_
          refine Wl.guardF rfl rfl rfl rfl ?_
          refine Wl.guardF rfl rfl rfl rfl ?_
          refine wZ rg (o_pickF rfl rfl (v := .bool false) rfl (mvZ (.bool false) rfl ?_))
          refine Wl.guardF rfl rfl rfl rfl ?_
          refine Wl.guardF rfl rfl rfl rfl ?_
          refine Wl.guardF rfl rfl rfl rfl ?_
          refine Wl.guardF rfl rfl rfl rfl ?_
          refine Wl.guardF rfl rfl rfl rfl ?_
          refine Wl.guardF rfl rfl rfl rfl ?_
          refine wZ rg (o_pickF rfl rfl (v := .bool false) rfl (asZ (.bool false) rfl (nZ ?_)))
          refine Vc.ret' ?_
          refine res_tmp (v := .bool false) rfl (res_nil ?_)
          show Gives _ (.bool false) _
          exact gives_out hrg (VW.refl _) (hQ _ h)
        replace h := h.1 hb3
        refine Wl.guardF rfl rfl hb3 rfl ?_
        refine wZ rg (o_pickT rfl hb3 (v := .bool true) rfl (nZ ?_))
        refine Vc.cond' rfl (fun _ => ?_) (fun hb => Bool.noConfusion hb)
        refine qZ (rZ (asZ (.bool false) rfl (nZ ?_)))
        refine Vc.ret' ?_
        refine res_tmp (v := .bool false) rfl (res_nil ?_)
        show Gives _ (.bool false) _
        exact gives_out hrg (VW.refl _) (hQ _ h)
      replace h := h.1 hb2
      refine Wl.guardF rfl rfl hb2 rfl ?_
      refine wZ rg (o_pickT rfl hb2 (v := .bool true) rfl (mvZ (.bool true) rfl ?_))
      refine Wl.guardF rfl rfl rfl rfl ?_
      refine Wl.guardF rfl rfl rfl rfl ?_
      refine wZ rg (o_pickT rfl rfl (v := .bool true) rfl (nZ ?_))
      refine Vc.cond' rfl (fun _ => ?_) (fun hb => Bool.noConfusion hb)
      refine qZ (rZ (asZ (.bool false) rfl (nZ ?_)))
      refine Vc.ret' ?_
      refine res_tmp (v := .bool false) rfl (res_nil ?_)
      show Gives _ (.bool false) _
      exact gives_out hrg (VW.refl _) (hQ _ h)
    replace h := h.1 hb1
    refine Wl.guardF rfl rfl hb1 rfl ?_
    refine wZ rg (o_pickT rfl hb1 (v := .bool true) rfl (mvZ (.bool true) rfl ?_))
    refine Wl.guardF rfl rfl rfl rfl ?_
    refine Wl.guardF rfl rfl rfl rfl ?_
    refine wZ rg (o_pickT rfl rfl (v := .bool true) rfl (mvZ (.bool true) rfl ?_))
    refine Wl.guardF rfl rfl rfl rfl ?_
    refine Wl.guardF rfl rfl rfl rfl ?_
    refine wZ rg (o_pickT rfl rfl (v := .bool true) rfl (nZ ?_))
    refine Vc.cond' rfl (fun _ => ?_) (fun hb => Bool.noConfusion hb)
    refine qZ (rZ (asZ (.bool false) rfl (nZ ?_)))
    refine Vc.ret' ?_
    refine res_tmp (v := .bool false) rfl (res_nil ?_)
    show Gives _ (.bool false) _
    exact gives_out hrg (VW.refl _) (hQ _ h)
  refine rZ ?_
  refine wZ rg (o_call (us := []) rfl (vn) (law14_awake_ctr h fun r10 h => (wZ rg (o_not rfl (mvZ (.bool (!r10)) rfl ?_)))))
  refine Wl.guard rfl rfl (fun hb9 => ?_) (fun hb9 => ?_)
  · replace h := h.2 hb9
    refine mvZ (eL (AV.int .i64) a) rfl ?_
    refine Wl.guardT rfl rfl hb9 ?_
    refine wZ rg (o_call (us := [eL (AV.int .i64) a]) rfl (vl' vr (vn)) (law14_valid_ctr h fun r11 h => ?_))
    refine Wl.guardT rfl rfl hb9 ?_
    refine wZ rg (o_not rfl (wZ rg (o_pickF rfl hb9 (v := .bool (!r11)) rfl (mvZ (.bool (!r11)) rfl ?_))))
    refine Wl.guard rfl rfl (fun hb10 => ?_) (fun hb10 => ?_)
    · replace h := h.2 hb10
      refine mvZ (eL (AV.int .i64) b) rfl ?_
      refine Wl.guardT rfl rfl hb10 ?_
      refine wZ rg (o_call (us := [eL (AV.int .i64) b]) rfl (vl' vr (vn)) (law14_valid_ctr h fun r12 h => ?_))
      refine Wl.guardT rfl rfl hb10 ?_
      refine wZ rg (o_not rfl (wZ rg (o_pickF rfl hb10 (v := .bool (!r12)) rfl (mvZ (.bool (!r12)) rfl ?_))))
      refine Wl.guard rfl rfl (fun hb11 => ?_) (fun hb11 => ?_)
      · replace h := h.2 hb11
        refine mvZ (eL (AV.int .i64) c) rfl ?_
        refine Wl.guardT rfl rfl hb11 ?_
        refine wZ rg (o_call (us := [eL (AV.int .i64) c]) rfl (vl' vr (vn)) (law14_valid_ctr h fun r13 h => ?_))
        refine Wl.guardT rfl rfl hb11 ?_
        refine wZ rg (o_not rfl (wZ rg (o_pickF rfl hb11 (v := .bool (!r13)) rfl (mvZ (.bool (!r13)) rfl ?_))))
        refine Wl.guard rfl rfl (fun hb12 => ?_) (fun hb12 => ?_)
        · replace h := h.2 hb12
          refine mvZ (eL (AV.int .i64) a) rfl ?_
          refine Wl.guardT rfl rfl hb12 ?_
          refine wZ rg (o_len td25 rfl ?_)
          refine Wl.guardT rfl rfl hb12 ?_
          refine mvZ (eL (AV.int .i64) b) rfl ?_
          refine Wl.guardT rfl rfl hb12 ?_
          refine wZ rg (o_len td25 rfl ?_)
          refine Wl.guardT rfl rfl hb12 ?_
          refine wZ rg (o_neq rfl rfl (wZ rg (o_pickF rfl hb12 (v := .bool ((a.length : Int) != (b.length : Int))) rfl (mvZ (.bool ((a.length : Int) != (b.length : Int))) rfl ?_))))
          refine Wl.guard rfl rfl (fun hb13 => ?_) (fun hb13 => ?_)
          · replace h := h.2 hb13
            refine mvZ (eL (AV.int .i64) b) rfl ?_
            refine Wl.guardT rfl rfl hb13 ?_
            refine wZ rg (o_len td25 rfl ?_)
            refine Wl.guardT rfl rfl hb13 ?_
            refine mvZ (eL (AV.int .i64) c) rfl ?_
            refine Wl.guardT rfl rfl hb13 ?_
            refine wZ rg (o_len td25 rfl ?_)
            refine Wl.guardT rfl rfl hb13 ?_
            refine wZ rg (o_neq rfl rfl (wZ rg (o_pickF rfl hb13 (v := .bool ((b.length : Int) != (c.length : Int))) rfl (nZ ?_))))
            exact ⟨((b.length : Int) != (c.length : Int)), (canon (fc vr (fc vr (fc vr (fc vr (fn))))) (sn)), h⟩
          replace h := h.1 hb13
          refine Wl.guardF rfl rfl hb13 rfl ?_
          refine Wl.guardF rfl rfl hb13 rfl ?_
          refine Wl.guardF rfl rfl hb13 rfl ?_
          refine Wl.guardF rfl rfl hb13 rfl ?_
          refine wZ rg (o_pickT rfl hb13 (v := .bool true) rfl (nZ ?_))
          exact ⟨true, (canon (fc vr (fc vr (fc vr (fc vr (fn))))) (sn)), h⟩
        replace h := h.1 hb12
        refine Wl.guardF rfl rfl hb12 rfl ?_
        refine Wl.guardF rfl rfl hb12 rfl ?_
        refine Wl.guardF rfl rfl hb12 rfl ?_
        refine Wl.guardF rfl rfl hb12 rfl ?_
        refine wZ rg (o_pickT rfl hb12 (v := .bool true) rfl (mvZ (.bool true) rfl ?_))
        refine Wl.guardF rfl rfl rfl rfl ?_
        refine Wl.guardF rfl rfl rfl rfl ?_
        refine Wl.guardF rfl rfl rfl rfl ?_
        refine Wl.guardF rfl rfl rfl rfl ?_
        refine Wl.guardF rfl rfl rfl rfl ?_
        refine wZ rg (o_pickT rfl rfl (v := .bool true) rfl (nZ ?_))
        exact ⟨true, (canon (fc vr (fc vr (fc vr (fc vr (fn))))) (sn)), h⟩
      replace h := h.1 hb11
      refine Wl.guardF rfl rfl hb11 rfl ?_
      refine Wl.guardF rfl rfl hb11 rfl ?_
      refine wZ rg (o_pickT rfl hb11 (v := .bool true) rfl (mvZ (.bool true) rfl ?_))
      refine Wl.guardF rfl rfl rfl rfl ?_
      refine Wl.guardF rfl rfl rfl rfl ?_
      refine Wl.guardF rfl rfl rfl rfl ?_
      refine Wl.guardF rfl rfl rfl rfl ?_
      refine Wl.guardF rfl rfl rfl rfl ?_
      refine wZ rg (o_pickT rfl rfl (v := .bool true) rfl (mvZ (.bool true) rfl ?_))
      refine Wl.guardF rfl rfl rfl rfl ?_
      refine Wl.guardF rfl rfl rfl rfl ?_
      refine Wl.guardF rfl rfl rfl rfl ?_
      refine Wl.guardF rfl rfl rfl rfl ?_
      refine Wl.guardF rfl rfl rfl rfl ?_
      refine wZ rg (o_pickT rfl rfl (v := .bool true) rfl (nZ ?_))
      exact ⟨true, (canon (fc vr (fc vr (fc vr (fc vr (fn))))) (sn)), h⟩
    replace h := h.1 hb10
    refine Wl.guardF rfl rfl hb10 rfl ?_
    refine Wl.guardF rfl rfl hb10 rfl ?_
    refine wZ rg (o_pickT rfl hb10 (v := .bool true) rfl (mvZ (.bool true) rfl ?_))
    refine Wl.guardF rfl rfl rfl rfl ?_
    refine Wl.guardF rfl rfl rfl rfl ?_
    refine Wl.guardF rfl rfl rfl rfl ?_
    refine wZ rg (o_pickT rfl rfl (v := .bool true) rfl (mvZ (.bool true) rfl ?_))
    refine Wl.guardF rfl rfl rfl rfl ?_
    refine Wl.guardF rfl rfl rfl rfl ?_
    refine Wl.guardF rfl rfl rfl rfl ?_
    refine Wl.guardF rfl rfl rfl rfl ?_
    refine Wl.guardF rfl rfl rfl rfl ?_
    refine wZ rg (o_pickT rfl rfl (v := .bool true) rfl (mvZ (.bool true) rfl ?_))
    refine Wl.guardF rfl rfl rfl rfl ?_
    refine Wl.guardF rfl rfl rfl rfl ?_
    refine Wl.guardF rfl rfl rfl rfl ?_
    refine Wl.guardF rfl rfl rfl rfl ?_
    refine Wl.guardF rfl rfl rfl rfl ?_
    refine wZ rg (o_pickT rfl rfl (v := .bool true) rfl (nZ ?_))
    exact ⟨true, (canon (fc vr (fc vr (fc vr (fc vr (fn))))) (sn)), h⟩
  replace h := h.1 hb9
  refine Wl.guardF rfl rfl hb9 rfl ?_
  refine Wl.guardF rfl rfl hb9 rfl ?_
  refine wZ rg (o_pickT rfl hb9 (v := .bool true) rfl (mvZ (.bool true) rfl ?_))
  refine Wl.guardF rfl rfl rfl rfl ?_
  refine Wl.guardF rfl rfl rfl rfl ?_
  refine Wl.guardF rfl rfl rfl rfl ?_
  refine wZ rg (o_pickT rfl rfl (v := .bool true) rfl (mvZ (.bool true) rfl ?_))
  refine Wl.guardF rfl rfl rfl rfl ?_
  refine Wl.guardF rfl rfl rfl rfl ?_
  refine Wl.guardF rfl rfl rfl rfl ?_
  refine wZ rg (o_pickT rfl rfl (v := .bool true) rfl (mvZ (.bool true) rfl ?_))
  refine Wl.guardF rfl rfl rfl rfl ?_
  refine Wl.guardF rfl rfl rfl rfl ?_
  refine Wl.guardF rfl rfl rfl rfl ?_
  refine Wl.guardF rfl rfl rfl rfl ?_
  refine Wl.guardF rfl rfl rfl rfl ?_
  refine wZ rg (o_pickT rfl rfl (v := .bool true) rfl (mvZ (.bool true) rfl ?_))
  refine Wl.guardF rfl rfl rfl rfl ?_
  refine Wl.guardF rfl rfl rfl rfl ?_
  refine Wl.guardF rfl rfl rfl rfl ?_
  refine Wl.guardF rfl rfl rfl rfl ?_
  refine Wl.guardF rfl rfl rfl rfl ?_
  refine wZ rg (o_pickT rfl rfl (v := .bool true) rfl (nZ ?_))
  exact ⟨true, (canon (fc vr (fc vr (fc vr (fc vr (fn))))) (sn)), h⟩
end Go.Proofs.Ytiamkdpljeemkaa
