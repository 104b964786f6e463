/- Walks of functions. Conditions: none. -/
import Derived.Test.YtonbnfgknijpoaaWLProductMarginals
import Derived.Test.YtonbnfgknijpoaaGgTy
import Derived.Test.YtonbnfgknijpoaaKB
import Derived.Test.YtonbnfgknijpoaaKH50
import Derived.Test.YtonbnfgknijpoaaKPproduct
import Derived.Test.YtonbnfgknijpoaaKPproductb
namespace Go.Proofs.Ytonbnfgknijpoaa
open Go.Gg
set_option maxRecDepth 100000
theorem law50_ProductMarginals_ctr {x : GRates} {i : Int} {Q : Bool → Prop} {S : St} {R : AV → St → Prop} (h : law50_ProductMarginals_W x i Q) (hQ : ∀ r1, Q r1 → R (AV.bool r1) S) :
    Ctr Try.prog 8 [eRates x, AV.int .u8 i] S R := by
  unfold law50_ProductMarginals_W at h
  refine enterT Try.func8 rfl Try.ntmps8 Try.results8 (by kernel_rfl) (fun rg hrg => ?_)
  refine qZ (rZ ?_)
  refine wZ rg (o_box (v := eRates x) rfl rfl (kk := 2) rfl (by decide) (fun g1 => ?_))
  refine asZ (.bool false) rfl ?_
  refine nZ (qZ ?_)
  obtain ⟨J, h, hJ⟩ := h
  refine Vc.join' (σ := ((Bool) × (Nat))) (fun y => J y.1) (fun y => envOf [(1, .int .u8 i), (2, .ptr rg 2 y.2 0 0), (25, .bool y.1)]) (fun y => stL S rg [(2, .arr 2 [eRates x], y.2)]) (fun y h => ?_) ?_
  · obtain ⟨x1, g2⟩ := y
    replace h := hJ x1 h
    show Vc _ _ _ _ (envOf [(1, .int .u8 i), (2, .ptr rg 2 g2 0 0), (25, .bool x1)]) (stL S rg [(2, .arr 2 [eRates x], g2)])
    refine Vc.cond' rfl (fun hb => ?_) (fun hb => ?_)
    · replace h := h.1 hb
      refine qZ (rZ ?_)
      refine wZ rg (o_call (us := []) rfl (vn) (law50_awake_ctr h fun r h => ?_))
      refine asZ (.bool r) rfl ?_
      refine nZ ?_
      refine Vc.ret' ?_
      refine res_tmp (v := .bool r) rfl ?_
      refine res_nil ?_
      show Gives _ (.bool r) _
      exact gives_out hrg (VW.refl _) (hQ _ h)
    replace h := h.2 hb
    refine Vc.skip' ?_
    refine qZ (rZ ?_)
    refine wZ rg (o_faP td24 rfl rfl (by rw [sz22]; decide) rfl ?_)
    refine wZ rg (o_loadB1 (atL (k := 2) rfl) sz22 ag22 rfl rfl (v := eL eRat x.Fail) rfl ?_)
    refine wZ rg (o_faP td24 rfl rfl (by rw [sz22]; decide) rfl ?_)
    refine wZ rg (o_loadB1 (atL (k := 2) rfl) sz22 ag22 rfl rfl (v := eL eRat x.Repair) rfl ?_)
    refine wZ rg (o_call (us := [eL eRat x.Fail, eL eRat x.Repair]) rfl (vl' vr (vl' vr (vn))) (product_Stationary_ctr h fun r1 r2 h => ?_))
    refine mvZ (.tuple [eL eRat r1, eErr 107 r2]) rfl ?_
    refine wZ rg (o_extract (v := eL eRat r1) rfl rfl rfl ?_)
    refine wZ rg (o_extract (v := eErr 107 r2) rfl rfl rfl ?_)
    refine asZ (eL eRat r1) rfl ?_
    refine asZ (eErr 107 r2) rfl ?_
    refine nZ (qZ ?_)
    obtain ⟨J, h, hJ⟩ := h
    refine Vc.join' (σ := ((Bool) × (Nat))) (fun y => J y.1) (fun y => envOf [(1, .int .u8 i), (2, .ptr rg 2 y.2 0 0), (5, eL eRat r1), (42, .bool y.1)]) (fun y => stL S rg [(2, .arr 2 [eRates x], y.2)]) (fun y h => ?_) ?_
    · obtain ⟨x2, g3⟩ := y
      replace h := hJ x2 h
      show Vc _ _ _ _ (envOf [(1, .int .u8 i), (2, .ptr rg 2 g3 0 0), (5, eL eRat r1), (42, .bool x2)]) (stL S rg [(2, .arr 2 [eRates x], g3)])
      refine Vc.cond' rfl (fun hb1 => ?_) (fun hb1 => ?_)
      · replace h := h.1 hb1
        refine qZ (rZ ?_)
        refine mvZ (eL eRat r1) rfl ?_
        refine wZ rg (o_len td22 rfl ?_)
        refine wZ rg (o_eql rfl rfl ?_)
        refine asZ (.bool ((r1.length : Int) == 0)) rfl ?_
        refine nZ ?_
        refine Vc.ret' ?_
        refine res_tmp (v := .bool ((r1.length : Int) == 0)) rfl ?_
        refine res_nil ?_
        show Gives _ (.bool ((r1.length : Int) == 0)) _
        exact gives_out hrg (VW.refl _) (hQ _ h)
      replace h := h.2 hb1
      refine Vc.skip' ?_
      refine qZ (rZ ?_)
      refine mvZ (.int .u8 i) rfl ?_
      refine wZ rg (o_conv td5 td3 rfl ?_)
      refine wZ rg (o_faP td24 rfl rfl (by rw [sz22]; decide) rfl ?_)
      refine wZ rg (o_loadB1 (atL (k := 2) rfl) sz22 ag22 rfl rfl (v := eL eRat x.Fail) rfl ?_)
      refine wZ rg (o_len td22 rfl ?_)
      refine wZ rg (o_rem rfl rfl h.1 ?_)
      replace h := h.2
      obtain ⟨k1, hs⟩ : ∃ qz, qz = (Int.tmod (IntKind.wrap .i64 i) (x.Fail.length : Int)) := ⟨_, rfl⟩
      replace h := h k1 hs
      refine wZ rg (o_assign (v := .int .i64 k1) (by subst hs; rfl) ?_)
      refine nZ (qZ (rZ ?_))
      refine mvZ (eL eRat r1) rfl ?_
      refine mvZ (.int .i64 k1) rfl ?_
      refine wZ rg (o_call (us := [eL eRat r1, AV.int .i64 k1]) rfl (vl' vr (vl' vr (vn))) (product_Marginal_ctr h fun r3 r4 h => ?_))
      refine mvZ (.tuple [eRat r3, eErr 107 r4]) rfl ?_
      refine wZ rg (o_extract (v := eRat r3) rfl rfl rfl ?_)
      refine wZ rg (o_extract (v := eErr 107 r4) rfl rfl rfl ?_)
      refine wZ rg (o_alloc zav27 ok27 (kk := 3) rfl (fun g4 => ?_))
      refine wZ rg (o_storeB (atL (k := 8) rfl) sz27 (by decide) rfl (w := eRat r3) rfl rfl rfl (v := eRat r3) rfl setL ?_)
      refine asZ (eErr 107 r4) rfl ?_
      refine nZ (qZ ?_)
      have hg := h.1
      replace h := h.2
      have hg1 := h.1
      replace h := h.2
      obtain ⟨r5, r6, hc, h⟩ := h
      refine Vc.drawn' mixed rg (usOf [(10, pc (.tuple [eRat r5, eErr 107 r6]))]) (by kernel_rfl) ?_
      refine dP rfl rfl (o_faP td24 rfl rfl (by rw [sz22]; decide) rfl ?_)
      refine dL (E := ([(rg, 2)], none)) rfl rfl (by simp) (cfn) (o_loadB1 (atL (k := 2) rfl) sz22 ag22 rfl rfl (v := eL eRat x.Fail) rfl ?_)
      refine dP rfl rfl (o_move (v := .int .i64 k1) rfl ?_)
      refine dP rfl rfl (o_idxL td22 sz27 (by decide) (fun _ => rfl) rfl rfl hg ?_)
      refine dP rfl rfl (o_loadIA sz27 (by decide) ag27 rfl rfl (v := eRat (at' x.Fail k1)) rfl ?_)
      refine dP rfl rfl (o_faP td24 rfl rfl (by rw [sz22]; decide) rfl ?_)
      refine dL (E := ([(rg, 2)], none)) rfl rfl (by simp) (cfa (by simp [apartE]) (cfn)) (o_loadB1 (atL (k := 2) rfl) sz22 ag22 rfl rfl (v := eL eRat x.Repair) rfl ?_)
      refine dP rfl rfl (o_move (v := .int .i64 k1) rfl ?_)
      refine dP rfl rfl (o_idxL td22 sz27 (by decide) (fun _ => rfl) rfl rfl hg1 ?_)
      refine dP rfl rfl (o_loadIA sz27 (by decide) ag27 rfl rfl (v := eRat (at' x.Repair k1)) rfl ?_)
      refine dC (vs := [eRat (at' x.Fail k1), eRat (at' x.Repair k1)]) rfl (vl' vr (vl' vr (vn))) (fun _ => product_Unavailable_ctr hc (fun _ _ hr => ⟨by rw [hr.1, hr.2], rfl⟩)) rfl ?_
      refine dP rfl rfl (o_move (v := .tuple [eRat r5, eErr 107 r6]) rfl ?_)
      refine dP rfl rfl (o_extract (v := eRat r5) rfl rfl rfl ?_)
      refine dP rfl rfl (o_extract (v := eErr 107 r6) rfl rfl rfl ?_)
      refine dL (E := ([], some (rg, 10))) rfl rfl (by simp) (cfa (by simp [apartE]) (cfa (by simp [apartE]) (cfn))) (o_alloc zav27 ok27 (kk := 3) rfl (fun g5 => ?_))
      refine dL (E := ([], some (rg, 10))) rfl rfl (by simp) (cfo (by kernel_rfl) (cfo (by kernel_rfl) (cfo (by kernel_rfl) (cfn)))) (o_storeB (atL (k := 10) rfl) sz27 (by decide) rfl (w := eRat r5) rfl rfl rfl (v := eRat r5) rfl setL ?_)
      refine dP rfl rfl (o_assign (v := eErr 107 r6) rfl ?_)
      refine dN ?_
      refine qZ (rZ ?_)
      refine mvZ (eErr 107 r4) rfl ?_
      refine wZ rg (o_isnil td31 (E := 107) rfl rfl rfl ?_)
      refine mvZ (.bool (Option.isNone r4)) rfl ?_
      refine Wl.guard rfl rfl (fun hb2 => ?_) (fun hb2 => ?_)
      · replace h := h.1 hb2
        refine mvZ (eErr 107 r6) rfl ?_
        refine Wl.guardT rfl rfl hb2 ?_
        refine wZ rg (o_isnil td31 (E := 107) rfl rfl rfl ?_)
        refine wZ rg (o_pickT rfl hb2 (v := .bool (Option.isNone r6)) rfl ?_)
        refine mvZ (.bool (Option.isNone r6)) rfl ?_
        refine Wl.guard rfl rfl (fun hb3 => ?_) (fun hb3 => ?_)
        · replace h := h.1 hb3
          refine wZ rg (o_loadBA (atL (k := 8) rfl) sz27 (by decide) ag27 rfl rfl (v := eRat r3) rfl ?_)
          refine Wl.guardT rfl rfl hb3 ?_
          refine wZ rg (o_loadBA (atL (k := 10) rfl) sz27 (by decide) ag27 rfl rfl (v := eRat r5) rfl ?_)
          refine Wl.guardT rfl rfl hb3 ?_
          refine wZ rg (o_call (us := [eRat r3, eRat r5]) rfl (vl' vr (vl' vr (vn))) (rational_Cmp_ctr h fun r7 h => ?_))
          refine Wl.guardT rfl rfl hb3 ?_
          refine wZ rg (o_eql rfl rfl ?_)
          refine wZ rg (o_pickT rfl hb3 (v := .bool (r7 == 0)) rfl ?_)
          refine asZ (.bool (r7 == 0)) rfl ?_
          refine nZ ?_
          refine Vc.ret' ?_
          refine res_tmp (v := .bool (r7 == 0)) rfl ?_
          refine res_nil ?_
          show Gives _ (.bool (r7 == 0)) _
          exact gives_out hrg (VW.refl _) (hQ _ h)
        replace h := h.2 hb3
        refine Wl.guardF rfl rfl hb3 rfl ?_
        refine Wl.guardF rfl rfl hb3 rfl ?_
        refine Wl.guardF rfl rfl hb3 rfl ?_
        refine wZ rg (o_pickF rfl hb3 (v := .bool false) rfl ?_)
        refine asZ (.bool false) rfl ?_
        refine nZ ?_
        refine Vc.ret' ?_
        refine res_tmp (v := .bool false) rfl ?_
        refine res_nil ?_
        show Gives _ (.bool false) _
        exact gives_out hrg (VW.refl _) (hQ _ h)
      replace h := h.2 hb2
      refine Wl.guardF rfl rfl hb2 rfl ?_
      refine wZ rg (o_pickF rfl hb2 (v := .bool false) rfl ?_)
      refine mvZ (.bool false) rfl ?_
      refine Wl.guardF rfl rfl rfl rfl ?_
      refine Wl.guardF rfl rfl rfl rfl ?_
      refine Wl.guardF rfl rfl rfl rfl ?_
      refine Wl.guardF rfl rfl rfl rfl ?_
      refine wZ rg (o_pickF rfl rfl (v := .bool false) rfl ?_)
      refine asZ (.bool false) rfl ?_
      refine nZ ?_
      refine Vc.ret' ?_
      refine res_tmp (v := .bool false) rfl ?_
      refine res_nil ?_
      show Gives _ (.bool false) _
      exact gives_out hrg (VW.refl _) (hQ _ h)
    refine rZ ?_
    refine mvZ (eErr 107 r2) rfl ?_
    refine wZ rg (o_isnon td31 (E := 107) rfl rfl rfl ?_)
    refine mvZ (.bool (Option.isSome r2)) rfl ?_
    refine Wl.guard rfl rfl (fun hb4 => ?_) (fun hb4 => ?_)
    · replace h := h.2 hb4
      refine wZ rg (o_faP td24 rfl rfl (by rw [sz22]; decide) rfl ?_)
      refine Wl.guardT rfl rfl hb4 ?_
      refine wZ rg (o_loadB1 (atL (k := 2) rfl) sz22 ag22 rfl rfl (v := eL eRat x.Fail) rfl ?_)
      refine Wl.guardT rfl rfl hb4 ?_
      refine wZ rg (o_len td22 rfl ?_)
      refine Wl.guardT rfl rfl hb4 ?_
      refine wZ rg (o_eql rfl rfl ?_)
      refine wZ rg (o_pickF rfl hb4 (v := .bool ((x.Fail.length : Int) == 0)) rfl ?_)
      refine nZ ?_
      exact ⟨(((x.Fail.length : Int) == 0), g2), (canon (fc vr (fc vr (fc vr (fc vr (fn))))) (sc rfl (sn))), h⟩
    replace h := h.1 hb4
    refine Wl.guardF rfl rfl hb4 rfl ?_
    refine Wl.guardF rfl rfl hb4 rfl ?_
    refine Wl.guardF rfl rfl hb4 rfl ?_
    refine wZ rg (o_pickT rfl hb4 (v := .bool true) rfl ?_)
    refine nZ ?_
    exact ⟨(true, g2), (canon (fc vr (fc vr (fc vr (fc vr (fn))))) (sc rfl (sn))), h⟩
  refine rZ ?_
  refine wZ rg (o_call (us := []) rfl (vn) (law50_awake_ctr h fun r8 h => ?_))
  refine wZ rg (o_not rfl ?_)
  refine mvZ (.bool (!r8)) rfl ?_
  refine Wl.guard rfl rfl (fun hb5 => ?_) (fun hb5 => ?_)
  · replace h := h.2 hb5
    refine wZ rg (o_faP td24 rfl rfl (by rw [sz22]; decide) rfl ?_)
    refine Wl.guardT rfl rfl hb5 ?_
    refine wZ rg (o_loadB1 (atL (k := 2) rfl) sz22 ag22 rfl rfl (v := eL eRat x.Fail) rfl ?_)
    refine Wl.guardT rfl rfl hb5 ?_
    refine wZ rg (o_call (us := [eL eRat x.Fail, AV.int .i64 8]) rfl (vl' vr (vl' vr (vn))) (law50_short_ctr h fun r9 h => ?_))
    refine Wl.guardT rfl rfl hb5 ?_
    refine wZ rg (o_not rfl ?_)
    refine wZ rg (o_pickF rfl hb5 (v := .bool (!r9)) rfl ?_)
    refine mvZ (.bool (!r9)) rfl ?_
    refine Wl.guard rfl rfl (fun hb6 => ?_) (fun hb6 => ?_)
    · replace h := h.2 hb6
      refine wZ rg (o_faP td24 rfl rfl (by rw [sz22]; decide) rfl ?_)
      refine Wl.guardT rfl rfl hb6 ?_
      refine wZ rg (o_loadB1 (atL (k := 2) rfl) sz22 ag22 rfl rfl (v := eL eRat x.Repair) rfl ?_)
      refine Wl.guardT rfl rfl hb6 ?_
      refine wZ rg (o_call (us := [eL eRat x.Repair, AV.int .i64 8]) rfl (vl' vr (vl' vr (vn))) (law50_short_ctr h fun r10 h => ?_))
      refine Wl.guardT rfl rfl hb6 ?_
      refine wZ rg (o_not rfl ?_)
      refine wZ rg (o_pickF rfl hb6 (v := .bool (!r10)) rfl ?_)
      refine nZ ?_
      exact ⟨((!r10), g1), (canon (fc vr (fc vr (fc vr (fn)))) (sc rfl (sn))), h⟩
    replace h := h.1 hb6
    refine Wl.guardF rfl rfl hb6 rfl ?_
    refine Wl.guardF rfl rfl hb6 rfl ?_
    refine Wl.guardF rfl rfl hb6 rfl ?_
    refine wZ rg (o_pickT rfl hb6 (v := .bool true) rfl ?_)
    refine nZ ?_
    exact ⟨(true, g1), (canon (fc vr (fc vr (fc vr (fn)))) (sc rfl (sn))), h⟩
  replace h := h.1 hb5
  refine Wl.guardF rfl rfl hb5 rfl ?_
  refine Wl.guardF rfl rfl hb5 rfl ?_
  refine Wl.guardF rfl rfl hb5 rfl ?_
  refine wZ rg (o_pickT rfl hb5 (v := .bool true) rfl ?_)
  refine mvZ (.bool true) rfl ?_
  refine Wl.guardF rfl rfl rfl rfl ?_
  refine Wl.guardF rfl rfl rfl rfl ?_
  refine Wl.guardF rfl rfl rfl rfl ?_
  refine Wl.guardF rfl rfl rfl rfl ?_
  refine wZ rg (o_pickT rfl rfl (v := .bool true) rfl ?_)
  refine nZ ?_
  exact ⟨(true, g1), (canon (fc vr (fc vr (fc vr (fn)))) (sc rfl (sn))), h⟩
end Go.Proofs.Ytonbnfgknijpoaa
