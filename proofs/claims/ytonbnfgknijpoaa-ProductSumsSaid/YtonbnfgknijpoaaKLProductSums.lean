/- Walks of functions. Conditions: none. -/
import Derived.Test.YtonbnfgknijpoaaWLProductSums
import Derived.Test.YtonbnfgknijpoaaGgTy
import Derived.Test.YtonbnfgknijpoaaKB
import Derived.Test.YtonbnfgknijpoaaKH50
import Derived.Test.YtonbnfgknijpoaaKPproduct
import Derived.Test.YtonbnfgknijpoaaKPproducte
import Derived.Test.YtonbnfgknijpoaaKR50c
import Derived.Test.YtonbnfgknijpoaaKS
namespace Go.Proofs.Ytonbnfgknijpoaa
open Go.Gg
set_option maxRecDepth 100000
theorem law50_ProductSums_ctr {dist : List GRat} {i : Int} {f : GFormula} {Q : Bool → Prop} {S : St} {R : AV → St → Prop} (h : law50_ProductSums_W dist i f Q) (hQ : ∀ r1, Q r1 → R (AV.bool r1) S) :
    Ctr Try.prog 11 [eL eRat dist, AV.int .i64 i, eFormula f] S R := by
  unfold law50_ProductSums_W at h
  refine enterT Try.func11 rfl Try.ntmps11 Try.results11 (by kernel_rfl) (fun rg hrg => ?_)
  refine qZ (rZ ?_)
  refine wZ rg (o_box (v := eFormula f) rfl rfl (kk := 3) rfl (by decide) (fun g1 => ?_))
  refine asZ (.bool false) rfl ?_
  refine nZ (qZ ?_)
  obtain ⟨J, h, hJ⟩ := h
  refine Vc.join' (σ := ((Bool) × (Nat))) (fun y => J y.1) (fun y => envOf [(0, eL eRat dist), (1, .int .i64 i), (5, .ptr rg 5 y.2 0 0), (26, .bool y.1)]) (fun y => stL S rg [(5, .arr 3 [eFormula f], y.2)]) (fun y h => ?_) ?_
  · obtain ⟨x, g2⟩ := y
    replace h := hJ x h
    show Vc _ _ _ _ (envOf [(0, eL eRat dist), (1, .int .i64 i), (5, .ptr rg 5 g2 0 0), (26, .bool x)]) (stL S rg [(5, .arr 3 [eFormula f], g2)])
    refine Vc.cond' rfl (fun hb => ?_) (fun hb => ?_)
    · replace h := h.1 hb
      refine qZ (rZ ?_)
      refine wZ rg (o_call (us := []) rfl (vn) (law50_awake_ctr h fun r h => ?_))
      refine asZ (.bool r) rfl ?_
      refine nZ ?_
      refine Vc.ret' ?_
      refine res_tmp (v := .bool r) rfl ?_
      refine res_nil ?_
      show Gives _ (.bool r) _
      exact gives_out hrg (VW.refl _) (hQ _ h)
    replace h := h.2 hb
    refine Vc.skip' ?_
    refine qZ (rZ ?_)
    refine mvZ (eL eRat dist) rfl ?_
    refine mvZ (.int .i64 i) rfl ?_
    refine wZ rg (o_call (us := [eL eRat dist, AV.int .i64 i]) rfl (vl' vr (vl' vr (vn))) (product_Marginal_ctr h fun r1 r2 h => ?_))
    refine mvZ (.tuple [eRat r1, eErr 107 r2]) rfl ?_
    refine wZ rg (o_extract (v := eRat r1) rfl rfl rfl ?_)
    refine wZ rg (o_extract (v := eErr 107 r2) rfl rfl rfl ?_)
    refine wZ rg (o_alloc zav27 ok27 (kk := 3) rfl (fun g3 => ?_))
    refine wZ rg (o_storeB (atL (k := 7) rfl) sz27 (by decide) rfl (w := eRat r1) rfl rfl rfl (v := eRat r1) rfl setL ?_)
    refine asZ (eErr 107 r2) rfl ?_
    refine nZ (qZ (rZ ?_))
    refine mvZ (eL eRat dist) rfl ?_
    refine wZ rg (o_loadBA (atL (k := 5) rfl) sz70 (by decide) ag70 rfl rfl (v := eFormula f) rfl ?_)
    refine wZ rg (o_call (us := [eL eRat dist, eFormula f]) rfl (vl' vr (vl' vr (vn))) (product_Down_ctr h fun r3 r4 h => ?_))
    refine mvZ (.tuple [eRat r3, eErr 107 r4]) rfl ?_
    refine wZ rg (o_extract (v := eRat r3) rfl rfl rfl ?_)
    refine wZ rg (o_extract (v := eErr 107 r4) rfl rfl rfl ?_)
    refine wZ rg (o_alloc zav27 ok27 (kk := 3) rfl (fun g4 => ?_))
    refine wZ rg (o_storeB (atL (k := 9) rfl) sz27 (by decide) rfl (w := eRat r3) rfl rfl rfl (v := eRat r3) rfl setL ?_)
    refine asZ (eErr 107 r4) rfl ?_
    refine nZ (qZ (rZ ?_))
    refine mvZ (eL eRat dist) rfl ?_
    refine mvZ (.int .i64 i) rfl ?_
    refine wZ rg (o_call (us := [eL eRat dist, AV.int .i64 i]) rfl (vl' vr (vl' vr (vn))) (ref50_Marginal_ctr h fun r5 r6 h => ?_))
    refine mvZ (.tuple [eRat r5, .int .i64 r6]) rfl ?_
    refine wZ rg (o_extract (v := eRat r5) rfl rfl rfl ?_)
    refine wZ rg (o_extract (v := .int .i64 r6) rfl rfl rfl ?_)
    refine wZ rg (o_alloc zav27 ok27 (kk := 3) rfl (fun g5 => ?_))
    refine wZ rg (o_storeB (atL (k := 11) rfl) sz27 (by decide) rfl (w := eRat r5) rfl rfl rfl (v := eRat r5) rfl setL ?_)
    refine asZ (.int .i64 r6) rfl ?_
    refine nZ (qZ (rZ ?_))
    refine mvZ (eL eRat dist) rfl ?_
    refine wZ rg (o_loadBA (atL (k := 5) rfl) sz70 (by decide) ag70 rfl rfl (v := eFormula f) rfl ?_)
    refine wZ rg (o_call (us := [eL eRat dist, eFormula f]) rfl (vl' vr (vl' vr (vn))) (ref50_Down_ctr h fun r7 r8 h => ?_))
    refine mvZ (.tuple [eRat r7, .int .i64 r8]) rfl ?_
    refine wZ rg (o_extract (v := eRat r7) rfl rfl rfl ?_)
    refine wZ rg (o_extract (v := .int .i64 r8) rfl rfl rfl ?_)
    refine wZ rg (o_alloc zav27 ok27 (kk := 3) rfl (fun g6 => ?_))
    refine wZ rg (o_storeB (atL (k := 13) rfl) sz27 (by decide) rfl (w := eRat r7) rfl rfl rfl (v := eRat r7) rfl setL ?_)
    refine asZ (.int .i64 r8) rfl ?_
    refine nZ (qZ (rZ ?_))
    refine mvZ (eErr 107 r2) rfl ?_
    refine wZ rg (o_call (us := [eErr 107 r2]) rfl (vl' vr (vn)) (base_Num_ctr h fun r9 h => ?_))
    refine mvZ (.int .i64 r6) rfl ?_
    refine wZ rg (o_eql rfl rfl ?_)
    refine mvZ (.bool (r9 == r6)) rfl ?_
    refine Wl.guard rfl rfl (fun hb1 => ?_) (fun hb1 => ?_)
    · replace h := h.1 hb1
      refine wZ rg (o_loadBA (atL (k := 7) rfl) sz27 (by decide) ag27 rfl rfl (v := eRat r1) rfl ?_)
      refine Wl.guardT rfl rfl hb1 ?_
      refine wZ rg (o_loadBA (atL (k := 11) rfl) sz27 (by decide) ag27 rfl rfl (v := eRat r5) rfl ?_)
      refine Wl.guardT rfl rfl hb1 ?_
      refine wZ rg (o_call (us := [eRat r1, eRat r5]) rfl (vl' vr (vl' vr (vn))) (base_Rat_ctr h fun r10 h => ?_))
      refine wZ rg (o_pickT rfl hb1 (v := .bool r10) rfl ?_)
      refine mvZ (.bool r10) rfl ?_
      refine Wl.guard rfl rfl (fun hb2 => ?_) (fun hb2 => ?_)
      · replace h := h.1 hb2
        refine mvZ (eErr 107 r4) rfl ?_
        refine Wl.guardT rfl rfl hb2 ?_
        refine wZ rg (o_call (us := [eErr 107 r4]) rfl (vl' vr (vn)) (base_Num_ctr h fun r11 h => ?_))
        refine Wl.guardT rfl rfl hb2 ?_
        refine mvZ (.int .i64 r8) rfl ?_
        refine Wl.guardT rfl rfl hb2 ?_
        refine wZ rg (o_eql rfl rfl ?_)
        refine wZ rg (o_pickT rfl hb2 (v := .bool (r11 == r8)) rfl ?_)
        refine mvZ (.bool (r11 == r8)) rfl ?_
        refine Wl.guard rfl rfl (fun hb3 => ?_) (fun hb3 => ?_)
        · replace h := h.1 hb3
          refine wZ rg (o_loadBA (atL (k := 9) rfl) sz27 (by decide) ag27 rfl rfl (v := eRat r3) rfl ?_)
          refine Wl.guardT rfl rfl hb3 ?_
          refine wZ rg (o_loadBA (atL (k := 13) rfl) sz27 (by decide) ag27 rfl rfl (v := eRat r7) rfl ?_)
          refine Wl.guardT rfl rfl hb3 ?_
          refine wZ rg (o_call (us := [eRat r3, eRat r7]) rfl (vl' vr (vl' vr (vn))) (base_Rat_ctr h fun r12 h => ?_))
          refine wZ rg (o_pickT rfl hb3 (v := .bool r12) rfl ?_)
          refine asZ (.bool r12) rfl ?_
          refine nZ ?_
          refine Vc.ret' ?_
          refine res_tmp (v := .bool r12) rfl ?_
          refine res_nil ?_
          show Gives _ (.bool r12) _
          exact gives_out hrg (VW.refl _) (hQ _ h)
        replace h := h.2 hb3
        refine Wl.guardF rfl rfl hb3 rfl ?_
        refine Wl.guardF rfl rfl hb3 rfl ?_
        refine wZ rg (o_pickF rfl hb3 (v := .bool false) rfl ?_)
        refine asZ (.bool false) rfl ?_
        refine nZ ?_
        refine Vc.ret' ?_
        refine res_tmp (v := .bool false) rfl ?_
        refine res_nil ?_
        show Gives _ (.bool false) _
        exact gives_out hrg (VW.refl _) (hQ _ h)
      replace h := h.2 hb2
      refine Wl.guardF rfl rfl hb2 rfl ?_
      refine Wl.guardF rfl rfl hb2 rfl ?_
      refine Wl.guardF rfl rfl hb2 rfl ?_
      refine wZ rg (o_pickF rfl hb2 (v := .bool false) rfl ?_)
      refine mvZ (.bool false) rfl ?_
      refine Wl.guardF rfl rfl rfl rfl ?_
      refine Wl.guardF rfl rfl rfl rfl ?_
      refine Wl.guardF rfl rfl rfl rfl ?_
      refine wZ rg (o_pickF rfl rfl (v := .bool false) rfl ?_)
      refine asZ (.bool false) rfl ?_
      refine nZ ?_
      refine Vc.ret' ?_
      refine res_tmp (v := .bool false) rfl ?_
      refine res_nil ?_
      show Gives _ (.bool false) _
      exact gives_out hrg (VW.refl _) (hQ _ h)
    replace h := h.2 hb1
    refine Wl.guardF rfl rfl hb1 rfl ?_
    refine Wl.guardF rfl rfl hb1 rfl ?_
    refine wZ rg (o_pickF rfl hb1 (v := .bool false) rfl ?_)
    refine mvZ (.bool false) rfl ?_
    refine Wl.guardF rfl rfl rfl rfl ?_
    refine Wl.guardF rfl rfl rfl rfl ?_
    refine Wl.guardF rfl rfl rfl rfl ?_
    refine Wl.guardF rfl rfl rfl rfl ?_
    refine wZ rg (o_pickF rfl rfl (v := .bool false) rfl ?_)
    refine mvZ (.bool false) rfl ?_
    refine Wl.guardF rfl rfl rfl rfl ?_
    refine Wl.guardF rfl rfl rfl rfl ?_
    refine Wl.guardF rfl rfl rfl rfl ?_
    refine wZ rg (o_pickF rfl rfl (v := .bool false) rfl ?_)
    refine asZ (.bool false) rfl ?_
    refine nZ ?_
    refine Vc.ret' ?_
    refine res_tmp (v := .bool false) rfl ?_
    refine res_nil ?_
    show Gives _ (.bool false) _
    exact gives_out hrg (VW.refl _) (hQ _ h)
  refine rZ ?_
  refine wZ rg (o_call (us := []) rfl (vn) (law50_awake_ctr h fun r13 h => ?_))
  refine wZ rg (o_not rfl ?_)
  refine mvZ (.bool (!r13)) rfl ?_
  refine Wl.guard rfl rfl (fun hb4 => ?_) (fun hb4 => ?_)
  · replace h := h.2 hb4
    refine mvZ (eL eRat dist) rfl ?_
    refine Wl.guardT rfl rfl hb4 ?_
    refine wZ rg (o_call (us := [eL eRat dist, AV.int .i64 300]) rfl (vl' vr (vl' vr (vn))) (law50_short_ctr h fun r14 h => ?_))
    refine Wl.guardT rfl rfl hb4 ?_
    refine wZ rg (o_not rfl ?_)
    refine wZ rg (o_pickF rfl hb4 (v := .bool (!r14)) rfl ?_)
    refine mvZ (.bool (!r14)) rfl ?_
    refine Wl.guard rfl rfl (fun hb5 => ?_) (fun hb5 => ?_)
    · replace h := h.2 hb5
      refine wZ rg (o_loadBA (atL (k := 5) rfl) sz70 (by decide) ag70 rfl rfl (v := eFormula f) rfl ?_)
      refine Wl.guardT rfl rfl hb5 ?_
      refine wZ rg (o_call (us := [eFormula f]) rfl (vl' vr (vn)) (law08_Light_ctr h fun r15 h => ?_))
      refine Wl.guardT rfl rfl hb5 ?_
      refine wZ rg (o_not rfl ?_)
      refine wZ rg (o_pickF rfl hb5 (v := .bool (!r15)) rfl ?_)
      refine nZ ?_
      exact ⟨((!r15), g1), (canon (fc vr (fc vr (fc vr (fc vr (fn))))) (sc rfl (sn))), h⟩
    replace h := h.1 hb5
    refine Wl.guardF rfl rfl hb5 rfl ?_
    refine Wl.guardF rfl rfl hb5 rfl ?_
    refine wZ rg (o_pickT rfl hb5 (v := .bool true) rfl ?_)
    refine nZ ?_
    exact ⟨(true, g1), (canon (fc vr (fc vr (fc vr (fc vr (fn))))) (sc rfl (sn))), h⟩
  replace h := h.1 hb4
  refine Wl.guardF rfl rfl hb4 rfl ?_
  refine Wl.guardF rfl rfl hb4 rfl ?_
  refine wZ rg (o_pickT rfl hb4 (v := .bool true) rfl ?_)
  refine mvZ (.bool true) rfl ?_
  refine Wl.guardF rfl rfl rfl rfl ?_
  refine Wl.guardF rfl rfl rfl rfl ?_
  refine Wl.guardF rfl rfl rfl rfl ?_
  refine wZ rg (o_pickT rfl rfl (v := .bool true) rfl ?_)
  refine nZ ?_
  exact ⟨(true, g1), (canon (fc vr (fc vr (fc vr (fc vr (fn))))) (sc rfl (sn))), h⟩
end Go.Proofs.Ytonbnfgknijpoaa
