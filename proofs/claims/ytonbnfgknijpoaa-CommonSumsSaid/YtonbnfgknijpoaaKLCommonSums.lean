/- Walks of functions. Conditions: none. -/
import Derived.Test.YtonbnfgknijpoaaWLCommonSums
import Derived.Test.YtonbnfgknijpoaaGgTy
import Derived.Test.YtonbnfgknijpoaaKB
import Derived.Test.YtonbnfgknijpoaaKH45
import Derived.Test.YtonbnfgknijpoaaKPcommon
import Derived.Test.YtonbnfgknijpoaaKPcommonb
namespace Go.Proofs.Ytonbnfgknijpoaa
open Go.Gg
set_option maxRecDepth 100000
theorem law45_CommonSums_ctr {p : GRat} {factors : List GRat} {Q : Bool → Prop} {S : St} {R : AV → St → Prop} (h : law45_CommonSums_W p factors Q) (hQ : ∀ r1, Q r1 → R (AV.bool r1) S) :
    Ctr Try.prog 7 [eRat p, eL eRat factors] S R := by
  unfold law45_CommonSums_W at h
  refine enterT Try.func7 rfl Try.ntmps7 Try.results7 (by kernel_rfl) (fun rg hrg => ?_)
  refine qZ (rZ ?_)
  refine wZ rg (o_box (v := eRat p) rfl rfl (kk := 3) rfl (by decide) (fun g1 => ?_))
  refine asZ (.bool false) rfl ?_
  refine nZ (qZ ?_)
  obtain ⟨J, h, hJ⟩ := h
  refine Vc.join' (σ := ((Bool) × (Nat))) (fun y => J y.1) (fun y => envOf [(1, eL eRat factors), (2, .ptr rg 2 y.2 0 0), (23, .bool y.1)]) (fun y => stL S rg [(2, .arr 3 [eRat p], y.2)]) (fun y h => ?_) ?_
  · obtain ⟨x, g2⟩ := y
    replace h := hJ x h
    show Vc _ _ _ _ (envOf [(1, eL eRat factors), (2, .ptr rg 2 g2 0 0), (23, .bool x)]) (stL S rg [(2, .arr 3 [eRat p], g2)])
    refine Vc.cond' rfl (fun hb => ?_) (fun hb => ?_)
    · replace h := h.1 hb
      refine qZ (rZ ?_)
      refine wZ rg (o_call (us := []) rfl (vn) (law45_awake_ctr h fun r h => ?_))
      refine asZ (.bool r) rfl ?_
      refine nZ ?_
      refine Vc.ret' ?_
      refine res_tmp (v := .bool r) rfl ?_
      refine res_nil ?_
      show Gives _ (.bool r) _
      exact gives_out hrg (VW.refl _) (hQ _ h)
    replace h := h.2 hb
    refine Vc.skip' ?_
    refine qZ (rZ ?_)
    refine wZ rg (o_loadBA (atL (k := 2) rfl) sz27 (by decide) ag27 rfl rfl (v := eRat p) rfl ?_)
    refine mvZ (eL eRat factors) rfl ?_
    refine wZ rg (o_call (us := [eRat p, eL eRat factors]) rfl (vl' vr (vl' vr (vn))) (common_Greek_ctr h fun r1 r2 h => ?_))
    refine mvZ (.tuple [eL eRat r1, eErr 107 r2]) rfl ?_
    refine wZ rg (o_extract (v := eL eRat r1) rfl rfl rfl ?_)
    refine wZ rg (o_extract (v := eErr 107 r2) rfl rfl rfl ?_)
    refine asZ (eL eRat r1) rfl ?_
    refine asZ (eErr 107 r2) rfl ?_
    refine nZ (qZ (qZ (rZ ?_)))
    refine mvZ (eErr 107 r2) rfl ?_
    refine wZ rg (o_isnon td31 (E := 107) rfl rfl rfl ?_)
    refine nZ ?_
    refine Vc.cond' rfl (fun hb1 => ?_) (fun hb1 => ?_)
    · replace h := h.1 hb1
      refine qZ (rZ ?_)
      refine mvZ (eL eRat r1) rfl ?_
      refine wZ rg (o_len td22 rfl ?_)
      refine wZ rg (o_eql rfl rfl ?_)
      refine asZ (.bool ((r1.length : Int) == 0)) rfl ?_
      refine nZ ?_
      refine Vc.ret' ?_
      refine res_tmp (v := .bool ((r1.length : Int) == 0)) rfl ?_
      refine res_nil ?_
      show Gives _ (.bool ((r1.length : Int) == 0)) _
      exact gives_out hrg (VW.refl _) (hQ _ h)
    replace h := h.2 hb1
    refine Vc.skip' ?_
    refine qZ (rZ ?_)
    refine mvZ (eL eRat r1) rfl ?_
    refine wZ rg (o_call (us := [eL eRat r1]) rfl (vl' vr (vn)) (common_Total_ctr h fun r3 r4 h => ?_))
    refine mvZ (.tuple [eRat r3, eErr 107 r4]) rfl ?_
    refine wZ rg (o_extract (v := eRat r3) rfl rfl rfl ?_)
    refine wZ rg (o_extract (v := eErr 107 r4) rfl rfl rfl ?_)
    refine wZ rg (o_alloc zav27 ok27 (kk := 3) rfl (fun g3 => ?_))
    refine wZ rg (o_storeB (atL (k := 7) rfl) sz27 (by decide) rfl (w := eRat r3) rfl rfl rfl (v := eRat r3) rfl setL ?_)
    refine asZ (eErr 107 r4) rfl ?_
    refine nZ (qZ (qZ (rZ ?_)))
    refine mvZ (eErr 107 r4) rfl ?_
    refine wZ rg (o_isnon td31 (E := 107) rfl rfl rfl ?_)
    refine mvZ (.bool (Option.isSome r4)) rfl ?_
    refine Wl.guard rfl rfl (fun hb2 => ?_) (fun hb2 => ?_)
    · replace h := h.2 hb2
      refine mvZ (eL eRat r1) rfl ?_
      refine Wl.guardT rfl rfl hb2 ?_
      refine wZ rg (o_len td22 rfl ?_)
      refine Wl.guardT rfl rfl hb2 ?_
      refine mvZ (eL eRat factors) rfl ?_
      refine Wl.guardT rfl rfl hb2 ?_
      refine wZ rg (o_len td22 rfl ?_)
      refine Wl.guardT rfl rfl hb2 ?_
      refine wZ rg (o_addG rfl rfl h.1 ?_)
      replace h := h.2
      refine Wl.guardT rfl rfl hb2 ?_
      refine wZ rg (o_neq rfl rfl ?_)
      refine wZ rg (o_pickF rfl hb2 (v := .bool ((r1.length : Int) != ((factors.length : Int) + 1))) rfl ?_)
      refine nZ ?_
      refine Vc.cond' rfl (fun hb3 => ?_) (fun hb3 => ?_)
      · replace h := h.1 hb3
        refine qZ (rZ ?_)
        refine asZ (.bool false) rfl ?_
        refine nZ ?_
        refine Vc.ret' ?_
        refine res_tmp (v := .bool false) rfl ?_
        refine res_nil ?_
        show Gives _ (.bool false) _
        exact gives_out hrg (VW.refl _) (hQ _ h)
      replace h := h.2 hb3
      refine Vc.skip' ?_
      refine qZ (qZ (rZ ?_))
      refine mvZ (eL eRat r1) rfl ?_
      refine wZ rg (o_len td22 rfl ?_)
      refine mvZ (.int .i64 0) rfl ?_
      refine nZ ?_
      refine Vc.blk ?_
      obtain ⟨I, μ, h0, hI⟩ := h
      refine Vc.loop' (σ := (Int)) (fun y => I y) (fun y => μ y) (fun y => envOf [(2, .ptr rg 2 g2 0 0), (7, .ptr rg 7 g3 0 0), (51, eL eRat r1), (52, .int .i64 (r1.length : Int)), (53, .int .i64 y)]) (fun y => stL S rg [(2, .arr 3 [eRat p], g2), (7, .arr 3 [eRat r3], g3)]) 0 (canon (fc vr (fc vr (fc vr (fc vr (fc vr (fn)))))) (sc rfl (sc rfl (sn)))) h0 (fun x1 h => ?_)
      replace h := hI x1 h
      show Vc _ _ _ _ (envOf [(2, .ptr rg 2 g2 0 0), (7, .ptr rg 7 g3 0 0), (51, eL eRat r1), (52, .int .i64 (r1.length : Int)), (53, .int .i64 x1)]) (stL S rg [(2, .arr 3 [eRat p], g2), (7, .arr 3 [eRat r3], g3)])
      refine qZ (rZ ?_)
      refine wZ rg (o_lss rfl rfl ?_)
      refine nZ (qZ ?_)
      refine Vc.cond' rfl (fun hb4 => ?_) (fun hb4 => ?_)
      · replace h := h.1 hb4
        refine Vc.skip' ?_
        refine qZ ?_
        refine Vc.blk ?_
        refine qZ (rZ ?_)
        refine wZ rg (o_idxL td22 sz27 (by decide) (fun _ => rfl) rfl rfl h.1 ?_)
        replace h := h.2
        refine wZ rg (o_loadIA sz27 (by decide) ag27 rfl rfl (v := eRat (at' r1 x1)) rfl ?_)
        refine wZ rg (o_alloc zav27 ok27 (kk := 3) rfl (fun g4 => ?_))
        refine wZ rg (o_storeB (atL (k := 10) rfl) sz27 (by decide) rfl (w := eRat (at' r1 x1)) rfl rfl rfl (v := eRat (at' r1 x1)) rfl setL ?_)
        refine nZ (qZ (rZ ?_))
        refine wZ rg (o_loadBA (atL (k := 10) rfl) sz27 (by decide) ag27 rfl rfl (v := eRat (at' r1 x1)) rfl ?_)
        refine wZ rg (o_call (us := [eRat (at' r1 x1)]) rfl (vl' vr (vn)) (rational_Prob_ctr h fun r5 h => ?_))
        refine wZ rg (o_not rfl ?_)
        refine mvZ (.bool (!r5)) rfl ?_
        refine Wl.guard rfl rfl (fun hb5 => ?_) (fun hb5 => ?_)
        · replace h := h.2 hb5
          refine wZ rg (o_loadBA (atL (k := 10) rfl) sz27 (by decide) ag27 rfl rfl (v := eRat (at' r1 x1)) rfl ?_)
          refine Wl.guardT rfl rfl hb5 ?_
          refine wZ rg (o_loadBA (atL (k := 2) rfl) sz27 (by decide) ag27 rfl rfl (v := eRat p) rfl ?_)
          refine Wl.guardT rfl rfl hb5 ?_
          refine wZ rg (o_call (us := [eRat (at' r1 x1), eRat p]) rfl (vl' vr (vl' vr (vn))) (rational_Cmp_ctr h fun r6 h => ?_))
          refine Wl.guardT rfl rfl hb5 ?_
          refine wZ rg (o_gtr rfl rfl ?_)
          refine wZ rg (o_pickF rfl hb5 (v := .bool (decide (0 < r6))) rfl ?_)
          refine nZ ?_
          refine Vc.cond' rfl (fun hb6 => ?_) (fun hb6 => ?_)
          · replace h := h.1 hb6
            refine qZ (rZ ?_)
            refine asZ (.bool false) rfl ?_
            refine nZ ?_
            refine Vc.ret' ?_
            refine res_tmp (v := .bool false) rfl ?_
            refine res_nil ?_
            show Gives _ (.bool false) _
            exact gives_out hrg (VW.refl _) (hQ _ h)
          replace h := h.2 hb6
          refine Vc.skip' ?_
          refine rZ ?_
          refine wZ rg (o_addG rfl rfl h.1 ?_)
          replace h := h.2
          refine mvZ (.int .i64 (x1 + 1)) rfl ?_
          refine nZ ?_
          exact ⟨(x1 + 1), (canon (fc vr (fc vr (fc vr (fc vr (fc vr (fn)))))) (sc rfl (sc rfl (sn)))), h⟩
        replace h := h.1 hb5
        refine Wl.guardF rfl rfl hb5 rfl ?_
        refine Wl.guardF rfl rfl hb5 rfl ?_
        refine Wl.guardF rfl rfl hb5 rfl ?_
        refine wZ rg (o_pickT rfl hb5 (v := .bool true) rfl ?_)
        refine nZ ?_
        refine Vc.cond' rfl (fun _ => ?_) (fun hb => Bool.noConfusion hb)
        refine qZ (rZ ?_)
        refine asZ (.bool false) rfl ?_
        refine nZ ?_
        refine Vc.ret' ?_
        refine res_tmp (v := .bool false) rfl ?_
        refine res_nil ?_
        show Gives _ (.bool false) _
        exact gives_out hrg (VW.refl _) (hQ _ h)
      replace h := h.2 hb4
      refine Vc.exit' (exB_self ?_)
      refine qZ (rZ ?_)
      refine wZ rg (o_loadBA (atL (k := 7) rfl) sz27 (by decide) ag27 rfl rfl (v := eRat r3) rfl ?_)
      refine wZ rg (o_loadBA (atL (k := 2) rfl) sz27 (by decide) ag27 rfl rfl (v := eRat p) rfl ?_)
      refine wZ rg (o_call (us := [eRat r3, eRat p]) rfl (vl' vr (vl' vr (vn))) (rational_Cmp_ctr h fun r7 h => ?_))
      refine wZ rg (o_eql rfl rfl ?_)
      refine asZ (.bool (r7 == 0)) rfl ?_
      refine nZ ?_
      refine Vc.ret' ?_
      refine res_tmp (v := .bool (r7 == 0)) rfl ?_
      refine res_nil ?_
      show Gives _ (.bool (r7 == 0)) _
      exact gives_out hrg (VW.refl _) (hQ _ h)
    replace h := h.1 hb2
    refine Wl.guardF rfl rfl hb2 rfl ?_
    refine Wl.guardF rfl rfl hb2 rfl ?_
    refine Wl.guardF rfl rfl hb2 rfl ?_
    refine Wl.guardF rfl rfl hb2 rfl ?_
    refine Wl.guardF rfl rfl hb2 rfl ?_
    refine wZ rg (o_pickT rfl hb2 (v := .bool true) rfl ?_)
    refine nZ ?_
    refine Vc.cond' rfl (fun _ => ?_) (fun hb => Bool.noConfusion hb)
    refine qZ (rZ ?_)
    refine asZ (.bool false) rfl ?_
    refine nZ ?_
    refine Vc.ret' ?_
    refine res_tmp (v := .bool false) rfl ?_
    refine res_nil ?_
    show Gives _ (.bool false) _
    exact gives_out hrg (VW.refl _) (hQ _ h)
  refine rZ ?_
  refine wZ rg (o_call (us := []) rfl (vn) (law45_awake_ctr h fun r8 h => ?_))
  refine wZ rg (o_not rfl ?_)
  refine mvZ (.bool (!r8)) rfl ?_
  refine Wl.guard rfl rfl (fun hb7 => ?_) (fun hb7 => ?_)
  · replace h := h.2 hb7
    refine wZ rg (o_loadBA (atL (k := 2) rfl) sz27 (by decide) ag27 rfl rfl (v := eRat p) rfl ?_)
    refine Wl.guardT rfl rfl hb7 ?_
    refine wZ rg (o_bslice td22 ok27 zav27 (es := [eRat p]) rfl (kk := 3) rfl rfl rfl rfl rfl rfl (fun g5 => ?_))
    refine Wl.guardT rfl rfl hb7 ?_
    refine Wl.wk (canon_freeze (k := 15) (xs := List.map eRat [p]) rfl (es := [(1, eL eRat factors), (2, .ptr rg 2 g1 0 0), (13, .bool (!r8)), (15, eL eRat [p])]) (fc vr (fc vr (fc vr (fc (frz_full rfl) (fn))))) (m := [(2, .arr 3 [eRat p], g1)]) (sc rfl (sn))) ?_
    refine wZ rg (o_call (us := [eL eRat [p]]) rfl (vl' vr (vn)) (law45_short_ctr h fun r9 h => ?_))
    refine Wl.guardT rfl rfl hb7 ?_
    refine wZ rg (o_not rfl ?_)
    refine wZ rg (o_pickF rfl hb7 (v := .bool (!r9)) rfl ?_)
    refine mvZ (.bool (!r9)) rfl ?_
    refine Wl.guard rfl rfl (fun hb8 => ?_) (fun hb8 => ?_)
    · replace h := h.2 hb8
      refine mvZ (eL eRat factors) rfl ?_
      refine Wl.guardT rfl rfl hb8 ?_
      refine wZ rg (o_call (us := [eL eRat factors]) rfl (vl' vr (vn)) (law45_short_ctr h fun r10 h => ?_))
      refine Wl.guardT rfl rfl hb8 ?_
      refine wZ rg (o_not rfl ?_)
      refine wZ rg (o_pickF rfl hb8 (v := .bool (!r10)) rfl ?_)
      refine nZ ?_
      exact ⟨((!r10), g1), (canon (fc vr (fc vr (fc vr (fn)))) (sc rfl (sn))), h⟩
    replace h := h.1 hb8
    refine Wl.guardF rfl rfl hb8 rfl ?_
    refine Wl.guardF rfl rfl hb8 rfl ?_
    refine wZ rg (o_pickT rfl hb8 (v := .bool true) rfl ?_)
    refine nZ ?_
    exact ⟨(true, g1), (canon (fc vr (fc vr (fc vr (fn)))) (sc rfl (sn))), h⟩
  replace h := h.1 hb7
  refine Wl.guardF rfl rfl hb7 rfl ?_
  refine Wl.guardF rfl rfl hb7 rfl ?_
  refine Wl.guardF rfl rfl hb7 rfl ?_
  refine wZ rg (o_pickT rfl hb7 (v := .bool true) rfl ?_)
  refine mvZ (.bool true) rfl ?_
  refine Wl.guardF rfl rfl rfl rfl ?_
  refine Wl.guardF rfl rfl rfl rfl ?_
  refine Wl.guardF rfl rfl rfl rfl ?_
  refine wZ rg (o_pickT rfl rfl (v := .bool true) rfl ?_)
  refine nZ ?_
  exact ⟨(true, g1), (canon (fc vr (fc vr (fc vr (fn)))) (sc rfl (sn))), h⟩
end Go.Proofs.Ytonbnfgknijpoaa
