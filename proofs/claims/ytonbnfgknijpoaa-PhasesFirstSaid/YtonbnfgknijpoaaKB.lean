/- Walks of functions. Conditions: none. -/
import Derived.Test.YtonbnfgknijpoaaWB
import Derived.Test.YtonbnfgknijpoaaGgTy
import Derived.Test.YtonbnfgknijpoaaKA
namespace Go.Proofs.Ytonbnfgknijpoaa
open Go.Gg
set_option maxRecDepth 100000
theorem rational_form_ctr {neg : Bool} {num : List Int} {den : List Int} {Q : GRat → Prop} {S : St} {R : AV → St → Prop} (h : rational_form_W neg num den Q) (hQ : ∀ r1, Q r1 → R (eRat r1) S) :
    Ctr Try.prog 104 [AV.bool neg, eL (AV.int .u32) num, eL (AV.int .u32) den] S R := by
  unfold rational_form_W at h
  refine enterT Try.func104 rfl Try.ntmps104 Try.results104 (by kernel_rfl) (fun rg hrg => ?_)
  refine qZ (rZ (wZ rg (o_alloc zav27 ok27 (kk := 3) rfl (fun g1 => (nZ (qZ (qZ (rZ (mvZ (eL (AV.int .u32) num) rfl (wZ rg (o_call (us := [eL (AV.int .u32) num]) rfl (vl' vr (vn)) (natural_Bits_ctr h fun r h => (wZ rg (o_eql rfl rfl (nZ ?_)))))))))))))))
  refine Vc.cond' rfl (fun hb => ?_) (fun hb => ?_)
  · replace h := h.1 hb
    refine qZ (rZ (wZ rg (o_build td27 zav27 bok27 szs27 sz27 (ps := []) rfl rfl (v := .agg [.bool false, .nil, .nil]) rfl (wZ rg (o_storeB (atL (k := 6) rfl) sz27 (by decide) rfl (w := .agg [.bool false, .nil, .nil]) rfl rfl rfl (v := .agg [.bool false, .nil, .nil]) rfl setL (nZ ?_))))))
    refine Vc.ret' ?_
    refine res_cellA (atL (k := 6) rfl) sz27 (by decide) ag27 rfl rfl (v := .agg [.bool false, .nil, .nil]) rfl (res_nil ?_)
    show Gives _ (.agg [.bool false, .nil, .nil]) _
    exact gives_out hrg (VW.aggL (vl' vr (vl' (VW.nilL) (vl' (VW.nilL) (vn))))) (hQ _ h)
  replace h := h.2 hb
  refine Vc.skip' ?_
  refine qZ (rZ (mvZ (eL (AV.int .u32) num) rfl (mvZ (eL (AV.int .u32) den) rfl (wZ rg (o_call (us := [eL (AV.int .u32) num, eL (AV.int .u32) den]) rfl (vl' vr (vl' vr (vn))) (natural_Gcd_ctr h fun g2 h => (asZ (eL (AV.int .u32) g2) rfl (nZ (qZ (rZ (mvZ (eL (AV.int .u32) num) rfl (mvZ (eL (AV.int .u32) g2) rfl ?_))))))))))))
  refine wZ rg (o_call (us := [eL (AV.int .u32) num, eL (AV.int .u32) g2]) rfl (vl' vr (vl' vr (vn))) (natural_Div_ctr h fun r1 r2 r3 h => (mvZ (.tuple [eL (AV.int .u32) r1, eL (AV.int .u32) r2, eErr 107 r3]) rfl (wZ rg (o_extract (v := eL (AV.int .u32) r1) rfl rfl rfl (wZ rg (o_extract (v := eL (AV.int .u32) r2) rfl rfl rfl (wZ rg (o_extract (v := eErr 107 r3) rfl rfl rfl ?_)))))))))
  refine asZ (eL (AV.int .u32) r1) rfl (asZ (eL (AV.int .u32) r2) rfl (asZ (eErr 107 r3) rfl (nZ (qZ (rZ (mvZ (eL (AV.int .u32) den) rfl (mvZ (eL (AV.int .u32) g2) rfl (wZ rg (o_call (us := [eL (AV.int .u32) den, eL (AV.int .u32) g2]) rfl (vl' vr (vl' vr (vn))) (natural_Div_ctr h fun r4 r5 r6 h => (mvZ (.tuple [eL (AV.int .u32) r4, eL (AV.int .u32) r5, eErr 107 r6]) rfl ?_)))))))))))
  refine wZ rg (o_extract (v := eL (AV.int .u32) r4) rfl rfl rfl (wZ rg (o_extract (v := eL (AV.int .u32) r5) rfl rfl rfl (wZ rg (o_extract (v := eErr 107 r6) rfl rfl rfl (asZ (eL (AV.int .u32) r4) rfl (asZ (eL (AV.int .u32) r5) rfl (asZ (eErr 107 r6) rfl (nZ (qZ (rZ (mvZ (.bool neg) rfl (mvZ (eL (AV.int .u32) r1) rfl (mvZ (eL (AV.int .u32) r4) rfl ?_))))))))))))))
  refine wZ rg (o_build td27 zav27 bok27 szs27 sz27 (ps := [(0, .bool neg), (1, eL (AV.int .u32) r1), (2, eL (AV.int .u32) r4)]) rfl rfl (v := .agg [.bool neg, eL (AV.int .u32) r1, eL (AV.int .u32) r4]) rfl ?_)
  refine wZ rg (o_storeB (atL (k := 6) rfl) sz27 (by decide) rfl (w := .agg [.bool neg, eL (AV.int .u32) r1, eL (AV.int .u32) r4]) rfl rfl rfl (v := .agg [.bool neg, eL (AV.int .u32) r1, eL (AV.int .u32) r4]) rfl setL (nZ ?_))
  refine Vc.ret' ?_
  refine res_cellA (atL (k := 6) rfl) sz27 (by decide) ag27 rfl rfl (v := .agg [.bool neg, eL (AV.int .u32) r1, eL (AV.int .u32) r4]) rfl (res_nil ?_)
  show Gives _ (.agg [.bool neg, eL (AV.int .u32) r1, eL (AV.int .u32) r4]) _
  exact gives_out hrg (VW.refl _) (hQ _ h)
theorem rational_one_ctr {Q : List Int → Prop} {S : St} {R : AV → St → Prop} (h : rational_one_W Q) (hQ : ∀ r1, Q r1 → R (eL (AV.int .u32) r1) S) :
    Ctr Try.prog 106 [] S R := by
  unfold rational_one_W at h
  refine enterT Try.func106 rfl Try.ntmps106 Try.results106 (by kernel_rfl) (fun rg hrg => ?_)
  refine qZ (rZ (asZ .nil rfl (nZ (qZ (rZ (wZ rg (o_bslice td25 ok173 zav173 (es := [.int .u32 1]) rfl (kk := 1) rfl rfl rfl rfl rfl rfl (fun g1 => (asZ (.sl 1 rg 1 g1 0 ([1].length)) rfl (nZ ?_))))))))))
  refine Vc.ret' ?_
  refine res_tmp (v := .sl 1 rg 1 g1 0 ([1].length)) rfl (res_nil ?_)
  show Gives _ (.sl 1 rg 1 g1 0 ([1].length)) _
  refine gives_freeze (k := 1) (xs := List.map (AV.int .u32) [1]) rfl (v' := eL (AV.int .u32) [1]) (frz_full rfl) ?_
  exact gives_out hrg (VW.refl _) (hQ _ h)
theorem rational_plain_ctr {a : List Int} {Q : Bool → Prop} {S : St} {R : AV → St → Prop} (h : rational_plain_W a Q) (hQ : ∀ r1, Q r1 → R (AV.bool r1) S) :
    Ctr Try.prog 149 [eL (AV.int .u32) a] S R := by
  unfold rational_plain_W at h
  refine enterT Try.func149 rfl Try.ntmps149 Try.results149 (by kernel_rfl) (fun rg hrg => ?_)
  refine qZ (rZ (asZ (.bool false) rfl (nZ (qZ (rZ (mvZ (eL (AV.int .u32) a) rfl (wZ rg (o_len td25 rfl (wZ rg (o_gtr rfl rfl (mvZ (.bool (decide (0 < (a.length : Int)))) rfl ?_)))))))))))
  refine Wl.guard rfl rfl (fun hb => ?_) (fun hb => ?_)
  · replace h := h.1 hb
    refine mvZ (eL (AV.int .u32) a) rfl ?_
    refine Wl.guardT rfl rfl hb ?_
    refine mvZ (eL (AV.int .u32) a) rfl ?_
    refine Wl.guardT rfl rfl hb ?_
    refine wZ rg (o_len td25 rfl ?_)
    refine Wl.guardT rfl rfl hb ?_
    refine wZ rg (o_subG rfl rfl h.1 ?_)
    replace h := h.2
    refine Wl.guardT rfl rfl hb ?_
    refine wZ rg (o_idxL td25 sz173 (by decide) (fun _ => rfl) rfl rfl h.1 ?_)
    replace h := h.2
    refine Wl.guardT rfl rfl hb ?_
    refine wZ rg (o_loadI1 sz173 ag173 rfl rfl (v := .int .u32 (at' a ((a.length : Int) - 1))) rfl ?_)
    refine Wl.guardT rfl rfl hb ?_
    refine wZ rg (o_neq rfl rfl (wZ rg (o_pickT rfl hb (v := .bool ((at' a ((a.length : Int) - 1)) != 0)) rfl (asZ (.bool ((at' a ((a.length : Int) - 1)) != 0)) rfl (nZ ?_)))))
    refine Vc.ret' ?_
    refine res_tmp (v := .bool ((at' a ((a.length : Int) - 1)) != 0)) rfl (res_nil ?_)
    show Gives _ (.bool ((at' a ((a.length : Int) - 1)) != 0)) _
    exact gives_out hrg (VW.refl _) (hQ _ h)
  replace h := h.2 hb
  refine Wl.guardF rfl rfl hb rfl ?_
  refine Wl.guardF rfl rfl hb rfl ?_
  refine Wl.guardF rfl rfl hb rfl ?_
  refine Wl.guardF rfl rfl hb rfl ?_
  refine Wl.guardF rfl rfl hb rfl ?_
  refine Wl.guardF rfl rfl hb rfl ?_
  refine wZ rg (o_pickF rfl hb (v := .bool false) rfl (asZ (.bool false) rfl (nZ ?_)))
  refine Vc.ret' ?_
  refine res_tmp (v := .bool false) rfl (res_nil ?_)
  show Gives _ (.bool false) _
  exact gives_out hrg (VW.refl _) (hQ _ h)
theorem rational_Valid_ctr {a : GRat} {Q : Bool → Prop} {S : St} {R : AV → St → Prop} (h : rational_Valid_W a Q) (hQ : ∀ r1, Q r1 → R (AV.bool r1) S) :
    Ctr Try.prog 102 [eRat a] S R := by
  unfold rational_Valid_W at h
  refine enterT Try.func102 rfl Try.ntmps102 Try.results102 (by kernel_rfl) (fun rg hrg => ?_)
  refine qZ (rZ (wZ rg (o_box (v := eRat a) rfl rfl (kk := 3) rfl (by decide) (fun g1 => (asZ (.bool false) rfl (nZ (qZ ?_)))))))
  obtain ⟨J, h, hJ⟩ := h
  refine Vc.join' (σ := ((Bool) × (Nat))) (fun y => J y.1) (fun y => envOf [(1, .ptr rg 1 y.2 0 0), (12, .bool y.1)]) (fun y => stL S rg [(1, .arr 3 [eRat a], y.2)]) (fun y h => ?_) ?_
  · obtain ⟨x, g2⟩ := y
    replace h := hJ x h
    show Vc _ _ _ _ (envOf [(1, .ptr rg 1 g2 0 0), (12, .bool x)]) (stL S rg [(1, .arr 3 [eRat a], g2)])
    refine Vc.cond' rfl (fun hb => ?_) (fun hb => ?_)
    · replace h := h.1 hb
      refine qZ (rZ (wZ rg (o_faP td27 rfl rfl (by rw [sz4]; decide) rfl (wZ rg (o_loadB1 (atL (k := 1) rfl) sz4 ag4 rfl rfl (v := .bool a.Neg) rfl (wZ rg (o_not rfl (asZ (.bool (!a.Neg)) rfl (nZ ?_)))))))))
      refine Vc.ret' ?_
      refine res_tmp (v := .bool (!a.Neg)) rfl (res_nil ?_)
      show Gives _ (.bool (!a.Neg)) _
      exact gives_out hrg (VW.refl _) (hQ _ h)
    replace h := h.2 hb
    refine Vc.skip' ?_
    refine qZ (rZ (wZ rg (o_faP td27 rfl rfl (by rw [sz25]; decide) rfl (wZ rg (o_loadB1 (atL (k := 1) rfl) sz25 ag25 rfl rfl (v := eL (AV.int .u32) a.Num) rfl (wZ rg (o_call (us := [eL (AV.int .u32) a.Num]) rfl (vl' vr (vn)) (rational_plain_ctr h fun r h => (mvZ (.bool r) rfl ?_)))))))))
    refine Wl.guard rfl rfl (fun hb1 => ?_) (fun hb1 => ?_)
    · replace h := h.1 hb1
      refine wZ rg (o_faP td27 rfl rfl (by rw [sz25]; decide) rfl ?_)
      refine Wl.guardT rfl rfl hb1 ?_
      refine wZ rg (o_loadB1 (atL (k := 1) rfl) sz25 ag25 rfl rfl (v := eL (AV.int .u32) a.Den) rfl ?_)
      refine Wl.guardT rfl rfl hb1 ?_
      refine wZ rg (o_call (us := [eL (AV.int .u32) a.Den]) rfl (vl' vr (vn)) (rational_plain_ctr h fun r1 h => (wZ rg (o_pickT rfl hb1 (v := .bool r1) rfl (mvZ (.bool r1) rfl ?_)))))
      refine Wl.guard rfl rfl (fun hb2 => ?_) (fun hb2 => ?_)
      · replace h := h.1 hb2
        refine wZ rg (o_faP td27 rfl rfl (by rw [sz25]; decide) rfl ?_)
        refine Wl.guardT rfl rfl hb2 ?_
        refine wZ rg (o_loadB1 (atL (k := 1) rfl) sz25 ag25 rfl rfl (v := eL (AV.int .u32) a.Num) rfl ?_)
        refine Wl.guardT rfl rfl hb2 ?_
        refine wZ rg (o_faP td27 rfl rfl (by rw [sz25]; decide) rfl ?_)
        refine Wl.guardT rfl rfl hb2 ?_
        refine wZ rg (o_loadB1 (atL (k := 1) rfl) sz25 ag25 rfl rfl (v := eL (AV.int .u32) a.Den) rfl ?_)
        refine Wl.guardT rfl rfl hb2 ?_
        refine wZ rg (o_call (us := [eL (AV.int .u32) a.Num, eL (AV.int .u32) a.Den]) rfl (vl' vr (vl' vr (vn))) (natural_Gcd_ctr h fun r2 h => ?_))
        refine Wl.guardT rfl rfl hb2 ?_
        refine wZ rg (o_call (us := []) rfl (vn) (rational_one_ctr h fun r3 h => ?_))
        refine Wl.guardT rfl rfl hb2 ?_
        refine wZ rg (o_call (us := [eL (AV.int .u32) r2, eL (AV.int .u32) r3]) rfl (vl' vr (vl' vr (vn))) (natural_Cmp_ctr h fun r4 h => ?_))
        refine Wl.guardT rfl rfl hb2 ?_
        refine wZ rg (o_eql rfl rfl (wZ rg (o_pickT rfl hb2 (v := .bool (r4 == 0)) rfl (asZ (.bool (r4 == 0)) rfl (nZ ?_)))))
        refine Vc.ret' ?_
        refine res_tmp (v := .bool (r4 == 0)) rfl (res_nil ?_)
        show Gives _ (.bool (r4 == 0)) _
        exact gives_out hrg (VW.refl _) (hQ _ h)
      replace h := h.2 hb2
      refine Wl.guardF rfl rfl hb2 rfl ?_
      refine Wl.guardF rfl rfl hb2 rfl ?_
      refine Wl.guardF rfl rfl hb2 rfl ?_
      refine Wl.guardF rfl rfl hb2 rfl ?_
      refine Wl.guardF rfl rfl hb2 rfl ?_
      refine Wl.guardF rfl rfl hb2 rfl ?_
      refine Wl.guardF rfl rfl hb2 rfl ?_
      refine wZ rg (o_pickF rfl hb2 (v := .bool false) rfl (asZ (.bool false) rfl (nZ ?_)))
      refine Vc.ret' ?_
      refine res_tmp (v := .bool false) rfl (res_nil ?_)
      show Gives _ (.bool false) _
      exact gives_out hrg (VW.refl _) (hQ _ h)
    replace h := h.2 hb1
    refine Wl.guardF rfl rfl hb1 rfl ?_
    refine Wl.guardF rfl rfl hb1 rfl ?_
    refine wZ rg (o_pickF rfl hb1 (v := .bool false) rfl (mvZ (.bool false) rfl ?_))
    refine Wl.guardF rfl rfl rfl rfl ?_
    refine Wl.guardF rfl rfl rfl rfl ?_
    refine Wl.guardF rfl rfl rfl rfl ?_
    refine Wl.guardF rfl rfl rfl rfl ?_
    refine Wl.guardF rfl rfl rfl rfl ?_
    refine Wl.guardF rfl rfl rfl rfl ?_
    refine Wl.guardF rfl rfl rfl rfl ?_
    refine Wl.guardF rfl rfl rfl rfl ?_
    refine wZ rg (o_pickF rfl rfl (v := .bool false) rfl (asZ (.bool false) rfl (nZ ?_)))
    refine Vc.ret' ?_
    refine res_tmp (v := .bool false) rfl (res_nil ?_)
    show Gives _ (.bool false) _
    exact gives_out hrg (VW.refl _) (hQ _ h)
  refine rZ ?_
  refine wZ rg (o_faP td27 rfl rfl (by rw [sz25]; decide) rfl (wZ rg (o_loadB1 (atL (k := 1) rfl) sz25 ag25 rfl rfl (v := eL (AV.int .u32) a.Num) rfl (wZ rg (o_len td25 rfl (wZ rg (o_eql rfl rfl (mvZ (.bool ((a.Num.length : Int) == 0)) rfl ?_))))))))
  refine Wl.guard rfl rfl (fun hb3 => ?_) (fun hb3 => ?_)
  · replace h := h.1 hb3
    refine wZ rg (o_faP td27 rfl rfl (by rw [sz25]; decide) rfl ?_)
    refine Wl.guardT rfl rfl hb3 ?_
    refine wZ rg (o_loadB1 (atL (k := 1) rfl) sz25 ag25 rfl rfl (v := eL (AV.int .u32) a.Den) rfl ?_)
    refine Wl.guardT rfl rfl hb3 ?_
    refine wZ rg (o_len td25 rfl ?_)
    refine Wl.guardT rfl rfl hb3 ?_
    refine wZ rg (o_eql rfl rfl (wZ rg (o_pickT rfl hb3 (v := .bool ((a.Den.length : Int) == 0)) rfl (nZ ?_))))
    exact ⟨(((a.Den.length : Int) == 0), g1), (canon (fc vr (fc vr (fn))) (sc rfl (sn))), h⟩
  replace h := h.2 hb3
  refine Wl.guardF rfl rfl hb3 rfl ?_
  refine Wl.guardF rfl rfl hb3 rfl ?_
  refine Wl.guardF rfl rfl hb3 rfl ?_
  refine wZ rg (o_pickF rfl hb3 (v := .bool false) rfl (nZ ?_))
  exact ⟨(false, g1), (canon (fc vr (fc vr (fn))) (sc rfl (sn))), h⟩
theorem rational_parts_ctr {a : GRat} {Q : Bool → List Int → List Int → Prop} {S : St} {R : AV → St → Prop} (h : rational_parts_W a Q) (hQ : ∀ r1 r2 r3, Q r1 r2 r3 → R (.tuple [AV.bool r1, eL (AV.int .u32) r2, eL (AV.int .u32) r3]) S) :
    Ctr Try.prog 107 [eRat a] S R := by
  unfold rational_parts_W at h
  refine enterT Try.func107 rfl Try.ntmps107 Try.results107 (by kernel_rfl) (fun rg hrg => ?_)
  refine qZ (rZ (wZ rg (o_box (v := eRat a) rfl rfl (kk := 3) rfl (by decide) (fun g1 => (asZ (.bool false) rfl (asZ .nil rfl (asZ .nil rfl (nZ (qZ ?_)))))))))
  obtain ⟨J, h, hJ⟩ := h
  refine Vc.join' (σ := ((Bool) × (Nat))) (fun y => J y.1) (fun y => envOf [(1, .ptr rg 1 y.2 0 0), (13, .bool y.1)]) (fun y => stL S rg [(1, .arr 3 [eRat a], y.2)]) (fun y h => ?_) ?_
  · obtain ⟨x, g2⟩ := y
    replace h := hJ x h
    show Vc _ _ _ _ (envOf [(1, .ptr rg 1 g2 0 0), (13, .bool x)]) (stL S rg [(1, .arr 3 [eRat a], g2)])
    refine Vc.cond' rfl (fun hb => ?_) (fun hb => ?_)
    · replace h := h.1 hb
      refine qZ (rZ (wZ rg (o_call (us := []) rfl (vn) (rational_one_ctr h fun r h => (asZ (.bool false) rfl (asZ .nil rfl (asZ (eL (AV.int .u32) r) rfl (nZ ?_))))))))
      refine Vc.ret' ?_
      refine res_tmp (v := .bool false) rfl (res_tmp (v := .nil) rfl (res_tmp (v := eL (AV.int .u32) r) rfl (res_nil ?_)))
      show Gives _ (.tuple [.bool false, .nil, eL (AV.int .u32) r]) _
      exact gives_out hrg (VW.tupL (vl' vr (vl' (VW.nilL) (vl' vr (vn))))) (hQ _ _ _ h)
    replace h := h.2 hb
    refine Vc.skip' ?_
    refine qZ ?_
    refine Vc.drawn' mixed rg (fun _ => jcr2) (by kernel_rfl) ?_
    refine dP rfl rfl (o_faP td27 rfl rfl (by rw [sz4]; decide) rfl (dL (E := ([(rg, 1)], [])) rfl rfl (by simp) (cfn) (o_loadB1 (atL (k := 1) rfl) sz4 ag4 rfl rfl (v := .bool a.Neg) rfl (dP rfl rfl (o_faP td27 rfl rfl (by rw [sz25]; decide) rfl (dL (E := ([(rg, 1)], [])) rfl rfl (by simp) (cfa (by simp [apartE]) (cfn)) (o_loadB1 (atL (k := 1) rfl) sz25 ag25 rfl rfl (v := eL (AV.int .u32) a.Num) rfl ?_)))))))
    refine dP rfl rfl (o_faP td27 rfl rfl (by rw [sz25]; decide) rfl (dL (E := ([(rg, 1)], [])) rfl rfl (by simp) (cfa (by simp [apartE]) (cfa (by simp [apartE]) (cfn))) (o_loadB1 (atL (k := 1) rfl) sz25 ag25 rfl rfl (v := eL (AV.int .u32) a.Den) rfl (dP rfl rfl (o_assign (v := .bool a.Neg) rfl (dP rfl rfl (o_assign (v := eL (AV.int .u32) a.Num) rfl ?_)))))))
    refine dP rfl rfl (o_assign (v := eL (AV.int .u32) a.Den) rfl (dN ?_))
    refine Vc.ret' ?_
    refine res_tmp (v := .bool a.Neg) rfl (res_tmp (v := eL (AV.int .u32) a.Num) rfl (res_tmp (v := eL (AV.int .u32) a.Den) rfl (res_nil ?_)))
    show Gives _ (.tuple [.bool a.Neg, eL (AV.int .u32) a.Num, eL (AV.int .u32) a.Den]) _
    exact gives_out hrg (VW.tupL (vl' vr (vl' vr (vl' vr (vn))))) (hQ _ _ _ h)
  refine rZ ?_
  refine wZ rg (o_loadBA (atL (k := 1) rfl) sz27 (by decide) ag27 rfl rfl (v := eRat a) rfl (wZ rg (o_call (us := [eRat a]) rfl (vl' vr (vn)) (rational_Valid_ctr h fun r1 h => (wZ rg (o_not rfl (mvZ (.bool (!r1)) rfl ?_)))))))
  refine Wl.guard rfl rfl (fun hb1 => ?_) (fun hb1 => ?_)
  · replace h := h.2 hb1
    refine wZ rg (o_faP td27 rfl rfl (by rw [sz25]; decide) rfl ?_)
    refine Wl.guardT rfl rfl hb1 ?_
    refine wZ rg (o_loadB1 (atL (k := 1) rfl) sz25 ag25 rfl rfl (v := eL (AV.int .u32) a.Num) rfl ?_)
    refine Wl.guardT rfl rfl hb1 ?_
    refine wZ rg (o_len td25 rfl ?_)
    refine Wl.guardT rfl rfl hb1 ?_
    refine wZ rg (o_eql rfl rfl (wZ rg (o_pickF rfl hb1 (v := .bool ((a.Num.length : Int) == 0)) rfl (nZ ?_))))
    exact ⟨(((a.Num.length : Int) == 0), g1), (canon (fc vr (fc vr (fn))) (sc rfl (sn))), h⟩
  replace h := h.1 hb1
  refine Wl.guardF rfl rfl hb1 rfl ?_
  refine Wl.guardF rfl rfl hb1 rfl ?_
  refine Wl.guardF rfl rfl hb1 rfl ?_
  refine wZ rg (o_pickT rfl hb1 (v := .bool true) rfl (nZ ?_))
  exact ⟨(true, g1), (canon (fc vr (fc vr (fn))) (sc rfl (sn))), h⟩
theorem rational_Add_ctr {a : GRat} {b : GRat} {Q : GRat → Prop} {S : St} {R : AV → St → Prop} (h : rational_Add_W a b Q) (hQ : ∀ r1, Q r1 → R (eRat r1) S) :
    Ctr Try.prog 46 [eRat a, eRat b] S R := by
  unfold rational_Add_W at h
  refine enterT Try.func46 rfl Try.ntmps46 Try.results46 (by kernel_rfl) (fun rg hrg => ?_)
  refine qZ (rZ (wZ rg (o_box (v := eRat a) rfl rfl (kk := 3) rfl (by decide) (fun g1 => (wZ rg (o_box (v := eRat b) rfl rfl (kk := 3) rfl (by decide) (fun g2 => (wZ rg (o_alloc zav27 ok27 (kk := 3) rfl (fun g3 => (nZ (qZ (rZ (wZ rg (o_loadBA (atL (k := 2) rfl) sz27 (by decide) ag27 rfl rfl (v := eRat a) rfl ?_)))))))))))))))
  refine wZ rg (o_call (us := [eRat a]) rfl (vl' vr (vn)) (rational_parts_ctr h fun r r1 r2 h => (mvZ (.tuple [.bool r, eL (AV.int .u32) r1, eL (AV.int .u32) r2]) rfl (wZ rg (o_extract (v := .bool r) rfl rfl rfl (wZ rg (o_extract (v := eL (AV.int .u32) r1) rfl rfl rfl (wZ rg (o_extract (v := eL (AV.int .u32) r2) rfl rfl rfl (asZ (.bool r) rfl (asZ (eL (AV.int .u32) r1) rfl ?_)))))))))))
  refine asZ (eL (AV.int .u32) r2) rfl (nZ (qZ (rZ (wZ rg (o_loadBA (atL (k := 3) rfl) sz27 (by decide) ag27 rfl rfl (v := eRat b) rfl (wZ rg (o_call (us := [eRat b]) rfl (vl' vr (vn)) (rational_parts_ctr h fun r3 r4 r5 h => (mvZ (.tuple [.bool r3, eL (AV.int .u32) r4, eL (AV.int .u32) r5]) rfl (wZ rg (o_extract (v := .bool r3) rfl rfl rfl (wZ rg (o_extract (v := eL (AV.int .u32) r4) rfl rfl rfl ?_)))))))))))))
  refine wZ rg (o_extract (v := eL (AV.int .u32) r5) rfl rfl rfl (asZ (.bool r3) rfl (asZ (eL (AV.int .u32) r4) rfl (asZ (eL (AV.int .u32) r5) rfl (nZ (qZ (rZ (mvZ (eL (AV.int .u32) r1) rfl (mvZ (eL (AV.int .u32) r5) rfl (wZ rg (o_call (us := [eL (AV.int .u32) r1, eL (AV.int .u32) r5]) rfl (vl' vr (vl' vr (vn))) (natural_Mul_ctr h fun p h => (mvZ (eL (AV.int .u32) r4) rfl ?_)))))))))))))
  refine mvZ (eL (AV.int .u32) r2) rfl (wZ rg (o_call (us := [eL (AV.int .u32) r4, eL (AV.int .u32) r2]) rfl (vl' vr (vl' vr (vn))) (natural_Mul_ctr h fun q h => (asZ (eL (AV.int .u32) p) rfl (asZ (eL (AV.int .u32) q) rfl (nZ (qZ (rZ (mvZ (eL (AV.int .u32) r2) rfl (mvZ (eL (AV.int .u32) r5) rfl ?_))))))))))
  refine wZ rg (o_call (us := [eL (AV.int .u32) r2, eL (AV.int .u32) r5]) rfl (vl' vr (vl' vr (vn))) (natural_Mul_ctr h fun den h => (asZ (eL (AV.int .u32) den) rfl (nZ (qZ (qZ (rZ (mvZ (.bool r) rfl (mvZ (.bool r3) rfl (wZ rg (o_eqlB td4 rfl rfl (nZ ?_))))))))))))
  refine Vc.cond' rfl (fun hb => ?_) (fun hb => ?_)
  · replace h := h.1 hb
    refine qZ (rZ (mvZ (.bool r) rfl (mvZ (eL (AV.int .u32) p) rfl (mvZ (eL (AV.int .u32) q) rfl (wZ rg (o_call (us := [eL (AV.int .u32) p, eL (AV.int .u32) q]) rfl (vl' vr (vl' vr (vn))) (natural_Add_ctr h fun r6 h => (mvZ (eL (AV.int .u32) den) rfl (wZ rg (o_call (us := [AV.bool r, eL (AV.int .u32) r6, eL (AV.int .u32) den]) rfl (vl' vr (vl' vr (vl' vr (vn)))) (rational_form_ctr h fun r7 h => ?_)))))))))))
    refine wZ rg (o_storeB (atL (k := 4) rfl) sz27 (by decide) rfl (w := eRat r7) rfl rfl rfl (v := eRat r7) rfl setL (nZ ?_))
    refine Vc.ret' ?_
    refine res_cellA (atL (k := 4) rfl) sz27 (by decide) ag27 rfl rfl (v := eRat r7) rfl (res_nil ?_)
    show Gives _ (eRat r7) _
    exact gives_out hrg (VW.refl _) (hQ _ h)
  replace h := h.2 hb
  refine Vc.skip' ?_
  refine qZ (qZ (rZ (mvZ (eL (AV.int .u32) p) rfl (mvZ (eL (AV.int .u32) q) rfl (wZ rg (o_call (us := [eL (AV.int .u32) p, eL (AV.int .u32) q]) rfl (vl' vr (vl' vr (vn))) (natural_Cmp_ctr h fun r8 h => (wZ rg (o_geq rfl rfl (nZ ?_))))))))))
  refine Vc.cond' rfl (fun hb1 => ?_) (fun hb1 => ?_)
  · replace h := h.1 hb1
    refine qZ (rZ (mvZ (eL (AV.int .u32) p) rfl (mvZ (eL (AV.int .u32) q) rfl (wZ rg (o_call (us := [eL (AV.int .u32) p, eL (AV.int .u32) q]) rfl (vl' vr (vl' vr (vn))) (natural_Sub_ctr h fun r9 r10 h => (mvZ (.tuple [eL (AV.int .u32) r9, eErr 107 r10]) rfl (wZ rg (o_extract (v := eL (AV.int .u32) r9) rfl rfl rfl (wZ rg (o_extract (v := eErr 107 r10) rfl rfl rfl (asZ (eL (AV.int .u32) r9) rfl ?_))))))))))))
    refine asZ (eErr 107 r10) rfl (nZ (qZ (rZ (mvZ (.bool r) rfl (mvZ (eL (AV.int .u32) r9) rfl (mvZ (eL (AV.int .u32) den) rfl (wZ rg (o_call (us := [AV.bool r, eL (AV.int .u32) r9, eL (AV.int .u32) den]) rfl (vl' vr (vl' vr (vl' vr (vn)))) (rational_form_ctr h fun r11 h => (wZ rg (o_storeB (atL (k := 4) rfl) sz27 (by decide) rfl (w := eRat r11) rfl rfl rfl (v := eRat r11) rfl setL (nZ ?_))))))))))))
    refine Vc.ret' ?_
    refine res_cellA (atL (k := 4) rfl) sz27 (by decide) ag27 rfl rfl (v := eRat r11) rfl (res_nil ?_)
    show Gives _ (eRat r11) _
    exact gives_out hrg (VW.refl _) (hQ _ h)
  replace h := h.2 hb1
  refine Vc.skip' ?_
  refine qZ (rZ (mvZ (eL (AV.int .u32) q) rfl (mvZ (eL (AV.int .u32) p) rfl (wZ rg (o_call (us := [eL (AV.int .u32) q, eL (AV.int .u32) p]) rfl (vl' vr (vl' vr (vn))) (natural_Sub_ctr h fun r12 r13 h => (mvZ (.tuple [eL (AV.int .u32) r12, eErr 107 r13]) rfl (wZ rg (o_extract (v := eL (AV.int .u32) r12) rfl rfl rfl (wZ rg (o_extract (v := eErr 107 r13) rfl rfl rfl (asZ (eL (AV.int .u32) r12) rfl ?_))))))))))))
  refine asZ (eErr 107 r13) rfl (nZ (qZ (rZ (mvZ (.bool r3) rfl (mvZ (eL (AV.int .u32) r12) rfl (mvZ (eL (AV.int .u32) den) rfl (wZ rg (o_call (us := [AV.bool r3, eL (AV.int .u32) r12, eL (AV.int .u32) den]) rfl (vl' vr (vl' vr (vl' vr (vn)))) (rational_form_ctr h fun r14 h => (wZ rg (o_storeB (atL (k := 4) rfl) sz27 (by decide) rfl (w := eRat r14) rfl rfl rfl (v := eRat r14) rfl setL (nZ ?_))))))))))))
  refine Vc.ret' ?_
  refine res_cellA (atL (k := 4) rfl) sz27 (by decide) ag27 rfl rfl (v := eRat r14) rfl (res_nil ?_)
  show Gives _ (eRat r14) _
  exact gives_out hrg (VW.refl _) (hQ _ h)
theorem rational_size_ctr {n : Int} {Q : List Int → Prop} {S : St} {R : AV → St → Prop} (h : rational_size_W n Q) (hQ : ∀ r1, Q r1 → R (eL (AV.int .u32) r1) S) :
    Ctr Try.prog 105 [AV.int .i64 n] S R := by
  unfold rational_size_W at h
  refine enterT Try.func105 rfl Try.ntmps105 Try.results105 (by kernel_rfl) (fun rg hrg => ?_)
  refine qZ (rZ (asZ .nil rfl (nZ (qZ (qZ (rZ (mvZ (.int .i64 n) rfl (wZ rg (o_eql rfl rfl (nZ ?_))))))))))
  refine Vc.cond' rfl (fun hb => ?_) (fun hb => ?_)
  · replace h := h.1 hb
    refine qZ (rZ (wZ rg (o_bslice td25 ok173 zav173 (es := [.int .u32 0, .int .u32 2147483648]) rfl (kk := 1) rfl rfl rfl rfl rfl rfl (fun g1 => (asZ (.sl 1 rg 5 g1 0 ([0, 2147483648].length)) rfl (nZ ?_))))))
    refine Vc.ret' ?_
    refine res_tmp (v := .sl 1 rg 5 g1 0 ([0, 2147483648].length)) rfl (res_nil ?_)
    show Gives _ (.sl 1 rg 5 g1 0 ([0, 2147483648].length)) _
    refine gives_freeze (k := 5) (xs := List.map (AV.int .u32) [0, 2147483648]) rfl (v' := eL (AV.int .u32) [0, 2147483648]) (frz_full rfl) ?_
    exact gives_out hrg (VW.refl _) (hQ _ h)
  replace h := h.2 hb
  refine Vc.skip' ?_
  refine qZ (rZ (mvZ (.int .i64 n) rfl (mvZ (.int .i64 n) rfl (wZ rg (o_negG rfl h.1 ?_)))))
  replace h := h.2
  refine wZ rg (o_max rfl rfl (wZ rg (o_call (us := [AV.int .i64 (max n (-n))]) rfl (vl' vr (vn)) (natural_Of_ctr h fun r h => (asZ (eL (AV.int .u32) r) rfl (nZ ?_))))))
  refine Vc.ret' ?_
  refine res_tmp (v := eL (AV.int .u32) r) rfl (res_nil ?_)
  show Gives _ (eL (AV.int .u32) r) _
  exact gives_out hrg (VW.refl _) (hQ _ h)
theorem rational_Of_ctr {n : Int} {Q : GRat → Prop} {S : St} {R : AV → St → Prop} (h : rational_Of_W n Q) (hQ : ∀ r1, Q r1 → R (eRat r1) S) :
    Ctr Try.prog 36 [AV.int .i64 n] S R := by
  unfold rational_Of_W at h
  refine enterT Try.func36 rfl Try.ntmps36 Try.results36 (by kernel_rfl) (fun rg hrg => ?_)
  refine qZ (rZ (wZ rg (o_alloc zav27 ok27 (kk := 3) rfl (fun g1 => (nZ (qZ (rZ (mvZ (.int .i64 n) rfl (wZ rg (o_lss rfl rfl (mvZ (.int .i64 n) rfl (wZ rg (o_call (us := [AV.int .i64 n]) rfl (vl' vr (vn)) (rational_size_ctr h fun r h => (wZ rg (o_call (us := []) rfl (vn) (rational_one_ctr h fun r1 h => ?_)))))))))))))))))
  refine wZ rg (o_call (us := [AV.bool (decide (n < 0)), eL (AV.int .u32) r, eL (AV.int .u32) r1]) rfl (vl' vr (vl' vr (vl' vr (vn)))) (rational_form_ctr h fun r2 h => (wZ rg (o_storeB (atL (k := 2) rfl) sz27 (by decide) rfl (w := eRat r2) rfl rfl rfl (v := eRat r2) rfl setL (nZ ?_)))))
  refine Vc.ret' ?_
  refine res_cellA (atL (k := 2) rfl) sz27 (by decide) ag27 rfl rfl (v := eRat r2) rfl (res_nil ?_)
  show Gives _ (eRat r2) _
  exact gives_out hrg (VW.refl _) (hQ _ h)
theorem rational_Mul_ctr {a : GRat} {b : GRat} {Q : GRat → Prop} {S : St} {R : AV → St → Prop} (h : rational_Mul_W a b Q) (hQ : ∀ r1, Q r1 → R (eRat r1) S) :
    Ctr Try.prog 37 [eRat a, eRat b] S R := by
  unfold rational_Mul_W at h
  refine enterT Try.func37 rfl Try.ntmps37 Try.results37 (by kernel_rfl) (fun rg hrg => ?_)
  refine qZ (rZ (wZ rg (o_box (v := eRat a) rfl rfl (kk := 3) rfl (by decide) (fun g1 => (wZ rg (o_box (v := eRat b) rfl rfl (kk := 3) rfl (by decide) (fun g2 => (wZ rg (o_alloc zav27 ok27 (kk := 3) rfl (fun g3 => (nZ (qZ (rZ (wZ rg (o_loadBA (atL (k := 2) rfl) sz27 (by decide) ag27 rfl rfl (v := eRat a) rfl ?_)))))))))))))))
  refine wZ rg (o_call (us := [eRat a]) rfl (vl' vr (vn)) (rational_parts_ctr h fun r r1 r2 h => (mvZ (.tuple [.bool r, eL (AV.int .u32) r1, eL (AV.int .u32) r2]) rfl (wZ rg (o_extract (v := .bool r) rfl rfl rfl (wZ rg (o_extract (v := eL (AV.int .u32) r1) rfl rfl rfl (wZ rg (o_extract (v := eL (AV.int .u32) r2) rfl rfl rfl (asZ (.bool r) rfl (asZ (eL (AV.int .u32) r1) rfl ?_)))))))))))
  refine asZ (eL (AV.int .u32) r2) rfl (nZ (qZ (rZ (wZ rg (o_loadBA (atL (k := 3) rfl) sz27 (by decide) ag27 rfl rfl (v := eRat b) rfl (wZ rg (o_call (us := [eRat b]) rfl (vl' vr (vn)) (rational_parts_ctr h fun r3 r4 r5 h => (mvZ (.tuple [.bool r3, eL (AV.int .u32) r4, eL (AV.int .u32) r5]) rfl (wZ rg (o_extract (v := .bool r3) rfl rfl rfl (wZ rg (o_extract (v := eL (AV.int .u32) r4) rfl rfl rfl ?_)))))))))))))
  refine wZ rg (o_extract (v := eL (AV.int .u32) r5) rfl rfl rfl (asZ (.bool r3) rfl (asZ (eL (AV.int .u32) r4) rfl (asZ (eL (AV.int .u32) r5) rfl (nZ (qZ (rZ (mvZ (.bool r) rfl (mvZ (.bool r3) rfl (wZ rg (o_neqB td4 rfl rfl (mvZ (eL (AV.int .u32) r1) rfl (mvZ (eL (AV.int .u32) r4) rfl ?_)))))))))))))
  refine wZ rg (o_call (us := [eL (AV.int .u32) r1, eL (AV.int .u32) r4]) rfl (vl' vr (vl' vr (vn))) (natural_Mul_ctr h fun r6 h => (mvZ (eL (AV.int .u32) r2) rfl (mvZ (eL (AV.int .u32) r5) rfl (wZ rg (o_call (us := [eL (AV.int .u32) r2, eL (AV.int .u32) r5]) rfl (vl' vr (vl' vr (vn))) (natural_Mul_ctr h fun r7 h => ?_)))))))
  refine wZ rg (o_call (us := [AV.bool (r != r3), eL (AV.int .u32) r6, eL (AV.int .u32) r7]) rfl (vl' vr (vl' vr (vl' vr (vn)))) (rational_form_ctr h fun r8 h => (wZ rg (o_storeB (atL (k := 4) rfl) sz27 (by decide) rfl (w := eRat r8) rfl rfl rfl (v := eRat r8) rfl setL (nZ ?_)))))
  refine Vc.ret' ?_
  refine res_cellA (atL (k := 4) rfl) sz27 (by decide) ag27 rfl rfl (v := eRat r8) rfl (res_nil ?_)
  show Gives _ (eRat r8) _
  exact gives_out hrg (VW.refl _) (hQ _ h)
theorem rational_Neg_ctr {a : GRat} {Q : GRat → Prop} {S : St} {R : AV → St → Prop} (h : rational_Neg_W a Q) (hQ : ∀ r1, Q r1 → R (eRat r1) S) :
    Ctr Try.prog 109 [eRat a] S R := by
  unfold rational_Neg_W at h
  refine enterT Try.func109 rfl Try.ntmps109 Try.results109 (by kernel_rfl) (fun rg hrg => ?_)
  refine qZ (rZ (wZ rg (o_box (v := eRat a) rfl rfl (kk := 3) rfl (by decide) (fun g1 => (wZ rg (o_alloc zav27 ok27 (kk := 3) rfl (fun g2 => (nZ (qZ (rZ (wZ rg (o_loadBA (atL (k := 1) rfl) sz27 (by decide) ag27 rfl rfl (v := eRat a) rfl (wZ rg (o_call (us := [eRat a]) rfl (vl' vr (vn)) (rational_parts_ctr h fun r r1 r2 h => (mvZ (.tuple [.bool r, eL (AV.int .u32) r1, eL (AV.int .u32) r2]) rfl ?_))))))))))))))))
  refine wZ rg (o_extract (v := .bool r) rfl rfl rfl (wZ rg (o_extract (v := eL (AV.int .u32) r1) rfl rfl rfl (wZ rg (o_extract (v := eL (AV.int .u32) r2) rfl rfl rfl (asZ (.bool r) rfl (asZ (eL (AV.int .u32) r1) rfl (asZ (eL (AV.int .u32) r2) rfl (nZ (qZ (rZ (mvZ (.bool r) rfl (wZ rg (o_not rfl (mvZ (eL (AV.int .u32) r1) rfl (mvZ (eL (AV.int .u32) r2) rfl ?_))))))))))))))))
  refine wZ rg (o_call (us := [AV.bool (!r), eL (AV.int .u32) r1, eL (AV.int .u32) r2]) rfl (vl' vr (vl' vr (vl' vr (vn)))) (rational_form_ctr h fun r3 h => (wZ rg (o_storeB (atL (k := 2) rfl) sz27 (by decide) rfl (w := eRat r3) rfl rfl rfl (v := eRat r3) rfl setL (nZ ?_)))))
  refine Vc.ret' ?_
  refine res_cellA (atL (k := 2) rfl) sz27 (by decide) ag27 rfl rfl (v := eRat r3) rfl (res_nil ?_)
  show Gives _ (eRat r3) _
  exact gives_out hrg (VW.refl _) (hQ _ h)
theorem rational_Sub_ctr {a : GRat} {b : GRat} {Q : GRat → Prop} {S : St} {R : AV → St → Prop} (h : rational_Sub_W a b Q) (hQ : ∀ r1, Q r1 → R (eRat r1) S) :
    Ctr Try.prog 38 [eRat a, eRat b] S R := by
  unfold rational_Sub_W at h
  refine enterT Try.func38 rfl Try.ntmps38 Try.results38 (by kernel_rfl) (fun rg hrg => ?_)
  refine qZ (rZ (wZ rg (o_box (v := eRat a) rfl rfl (kk := 3) rfl (by decide) (fun g1 => (wZ rg (o_box (v := eRat b) rfl rfl (kk := 3) rfl (by decide) (fun g2 => (wZ rg (o_alloc zav27 ok27 (kk := 3) rfl (fun g3 => (nZ (qZ ?_))))))))))))
  obtain ⟨r, hc, h⟩ := h
  obtain ⟨r1, hc1, h⟩ := h
  refine Vc.drawn' mixed rg (usOf [(2, pc (eRat r)), (3, pc (eRat r1))]) (by kernel_rfl) ?_
  refine dL (E := ([(rg, 2)], [])) rfl rfl (by simp) (cfn) (o_loadBA (atL (k := 2) rfl) sz27 (by decide) ag27 rfl rfl (v := eRat a) rfl (dL (E := ([(rg, 3)], [])) rfl rfl (by simp) (cfa (by simp [apartE]) (cfn)) (o_loadBA (atL (k := 3) rfl) sz27 (by decide) ag27 rfl rfl (v := eRat b) rfl ?_)))
  refine dC (vs := [eRat b]) rfl (vl' vr (vn)) (fun _ => rational_Neg_ctr hc (fun _ hr => ⟨by rw [hr], rfl⟩)) rfl ?_
  refine dC (vs := [eRat a, eRat r]) rfl (vl' vr (vl' vr (vn))) (fun _ => rational_Add_ctr hc1 (fun _ hr => ⟨by rw [hr], rfl⟩)) rfl ?_
  refine dL (E := ([], [(rg, 4)])) rfl rfl (by simp) (cfo (by kernel_rfl) (cfo (by kernel_rfl) (cfn))) (o_storeB (atL (k := 4) rfl) sz27 (by decide) rfl (w := eRat r1) rfl rfl rfl (v := eRat r1) rfl setL (dN ?_))
  refine Vc.ret' ?_
  refine res_cellA (atL (k := 4) rfl) sz27 (by decide) ag27 rfl rfl (v := eRat r1) rfl (res_nil ?_)
  show Gives _ (eRat r1) _
  exact gives_out hrg (VW.refl _) (hQ _ h)
theorem base_Words_ctr {a : List Int} {b : List Int} {Q : Bool → Prop} {S : St} {R : AV → St → Prop} (h : base_Words_W a b Q) (hQ : ∀ r1, Q r1 → R (AV.bool r1) S) :
    Ctr Try.prog 93 [eL (AV.int .u32) a, eL (AV.int .u32) b] S R := by
  unfold base_Words_W at h
  refine enterT Try.func93 rfl Try.ntmps93 Try.results93 (by kernel_rfl) (fun rg hrg => ?_)
  refine qZ (rZ (asZ (.bool false) rfl (nZ (qZ (qZ (rZ (mvZ (eL (AV.int .u32) a) rfl (wZ rg (o_len td25 rfl (mvZ (eL (AV.int .u32) b) rfl (wZ rg (o_len td25 rfl (wZ rg (o_neq rfl rfl (nZ ?_)))))))))))))))
  refine Vc.cond' rfl (fun hb => ?_) (fun hb => ?_)
  · replace h := h.1 hb
    refine qZ (rZ (asZ (.bool false) rfl (nZ ?_)))
    refine Vc.ret' ?_
    refine res_tmp (v := .bool false) rfl (res_nil ?_)
    show Gives _ (.bool false) _
    exact gives_out hrg (VW.refl _) (hQ _ h)
  replace h := h.2 hb
  refine Vc.skip' ?_
  refine qZ (qZ (rZ (mvZ (eL (AV.int .u32) a) rfl (wZ rg (o_len td25 rfl (mvZ (.int .i64 0) rfl (nZ ?_)))))))
  refine Vc.blk ?_
  obtain ⟨I, μ, h0, hI⟩ := h
  refine Vc.loop' (σ := (Int)) (fun y => I y) (fun y => μ y) (fun y => envOf [(0, eL (AV.int .u32) a), (1, eL (AV.int .u32) b), (12, .int .i64 (a.length : Int)), (13, .int .i64 y)]) (fun y => stL S rg []) 0 (canon (fc vr (fc vr (fc vr (fc vr (fn))))) (sn)) h0 (fun x h => ?_)
  replace h := hI x h
  show Vc _ _ _ _ (envOf [(0, eL (AV.int .u32) a), (1, eL (AV.int .u32) b), (12, .int .i64 (a.length : Int)), (13, .int .i64 x)]) (stL S rg [])
  refine qZ (rZ (wZ rg (o_lss rfl rfl (nZ (qZ ?_)))))
  refine Vc.cond' rfl (fun hb1 => ?_) (fun hb1 => ?_)
  · replace h := h.1 hb1
    refine Vc.skip' ?_
    refine qZ ?_
    refine Vc.blk ?_
    refine qZ (rZ (mvZ (.int .i64 x) rfl (asZ (.int .i64 x) rfl (nZ (qZ ?_)))))
    have hg := h.1
    replace h := h.2
    have hg1 := h.1
    replace h := h.2
    refine Vc.drawn' mixed rg (fun _ => jcr2) (by kernel_rfl) ?_
    refine dP rfl rfl (o_move (v := eL (AV.int .u32) a) rfl (dP rfl rfl (o_move (v := .int .i64 x) rfl (dP rfl rfl (o_idxL td25 sz173 (by decide) (fun _ => rfl) rfl rfl hg (dP rfl rfl (o_loadI1 sz173 ag173 rfl rfl (v := .int .u32 (at' a x)) rfl (dP rfl rfl (o_move (v := eL (AV.int .u32) b) rfl (dP rfl rfl (o_move (v := .int .i64 x) rfl ?_)))))))))))
    refine dP rfl rfl (o_idxL td25 sz173 (by decide) (fun _ => rfl) rfl rfl hg1 (dP rfl rfl (o_loadI1 sz173 ag173 rfl rfl (v := .int .u32 (at' b x)) rfl (dP rfl rfl (o_neq rfl rfl (dN ?_))))))
    refine Vc.cond' rfl (fun hb2 => ?_) (fun hb2 => ?_)
    · replace h := h.1 hb2
      refine qZ (rZ (asZ (.bool false) rfl (nZ ?_)))
      refine Vc.ret' ?_
      refine res_tmp (v := .bool false) rfl (res_nil ?_)
      show Gives _ (.bool false) _
      exact gives_out hrg (VW.refl _) (hQ _ h)
    replace h := h.2 hb2
    refine Vc.skip' ?_
    refine rZ ?_
    refine wZ rg (o_addG rfl rfl h.1 ?_)
    replace h := h.2
    refine mvZ (.int .i64 (x + 1)) rfl (nZ ?_)
    exact ⟨(x + 1), (canon (fc vr (fc vr (fc vr (fc vr (fn))))) (sn)), h⟩
  replace h := h.2 hb1
  refine Vc.exit' (exB_self ?_)
  refine qZ (rZ (asZ (.bool true) rfl (nZ ?_)))
  refine Vc.ret' ?_
  refine res_tmp (v := .bool true) rfl (res_nil ?_)
  show Gives _ (.bool true) _
  exact gives_out hrg (VW.refl _) (hQ _ h)
theorem base_Rat_ctr {a : GRat} {b : GRat} {Q : Bool → Prop} {S : St} {R : AV → St → Prop} (h : base_Rat_W a b Q) (hQ : ∀ r1, Q r1 → R (AV.bool r1) S) :
    Ctr Try.prog 29 [eRat a, eRat b] S R := by
  unfold base_Rat_W at h
  refine enterT Try.func29 rfl Try.ntmps29 Try.results29 (by kernel_rfl) (fun rg hrg => ?_)
  refine qZ (rZ (wZ rg (o_box (v := eRat a) rfl rfl (kk := 3) rfl (by decide) (fun g1 => (wZ rg (o_box (v := eRat b) rfl rfl (kk := 3) rfl (by decide) (fun g2 => (asZ (.bool false) rfl (nZ (qZ (rZ (wZ rg (o_faP td27 rfl rfl (by rw [sz4]; decide) rfl (wZ rg (o_loadB1 (atL (k := 2) rfl) sz4 ag4 rfl rfl (v := .bool a.Neg) rfl (wZ rg (o_faP td27 rfl rfl (by rw [sz4]; decide) rfl ?_)))))))))))))))))
  refine wZ rg (o_loadB1 (atL (k := 3) rfl) sz4 ag4 rfl rfl (v := .bool b.Neg) rfl (wZ rg (o_eqlB td4 rfl rfl (mvZ (.bool (a.Neg == b.Neg)) rfl ?_))))
  refine Wl.guard rfl rfl (fun hb => ?_) (fun hb => ?_)
  · replace h := h.1 hb
    refine wZ rg (o_faP td27 rfl rfl (by rw [sz25]; decide) rfl ?_)
    refine Wl.guardT rfl rfl hb ?_
    refine wZ rg (o_loadB1 (atL (k := 2) rfl) sz25 ag25 rfl rfl (v := eL (AV.int .u32) a.Num) rfl ?_)
    refine Wl.guardT rfl rfl hb ?_
    refine wZ rg (o_faP td27 rfl rfl (by rw [sz25]; decide) rfl ?_)
    refine Wl.guardT rfl rfl hb ?_
    refine wZ rg (o_loadB1 (atL (k := 3) rfl) sz25 ag25 rfl rfl (v := eL (AV.int .u32) b.Num) rfl ?_)
    refine Wl.guardT rfl rfl hb ?_
    refine wZ rg (o_call (us := [eL (AV.int .u32) a.Num, eL (AV.int .u32) b.Num]) rfl (vl' vr (vl' vr (vn))) (base_Words_ctr h fun r h => (wZ rg (o_pickT rfl hb (v := .bool r) rfl (mvZ (.bool r) rfl ?_)))))
    refine Wl.guard rfl rfl (fun hb1 => ?_) (fun hb1 => ?_)
    · replace h := h.1 hb1
      refine wZ rg (o_faP td27 rfl rfl (by rw [sz25]; decide) rfl ?_)
      refine Wl.guardT rfl rfl hb1 ?_
      refine wZ rg (o_loadB1 (atL (k := 2) rfl) sz25 ag25 rfl rfl (v := eL (AV.int .u32) a.Den) rfl ?_)
      refine Wl.guardT rfl rfl hb1 ?_
      refine wZ rg (o_faP td27 rfl rfl (by rw [sz25]; decide) rfl ?_)
      refine Wl.guardT rfl rfl hb1 ?_
      refine wZ rg (o_loadB1 (atL (k := 3) rfl) sz25 ag25 rfl rfl (v := eL (AV.int .u32) b.Den) rfl ?_)
      refine Wl.guardT rfl rfl hb1 ?_
      refine wZ rg (o_call (us := [eL (AV.int .u32) a.Den, eL (AV.int .u32) b.Den]) rfl (vl' vr (vl' vr (vn))) (base_Words_ctr h fun r1 h => (wZ rg (o_pickT rfl hb1 (v := .bool r1) rfl (asZ (.bool r1) rfl (nZ ?_))))))
      refine Vc.ret' ?_
      refine res_tmp (v := .bool r1) rfl (res_nil ?_)
      show Gives _ (.bool r1) _
      exact gives_out hrg (VW.refl _) (hQ _ h)
    replace h := h.2 hb1
    refine Wl.guardF rfl rfl hb1 rfl ?_
    refine Wl.guardF rfl rfl hb1 rfl ?_
    refine Wl.guardF rfl rfl hb1 rfl ?_
    refine Wl.guardF rfl rfl hb1 rfl ?_
    refine wZ rg (o_pickF rfl hb1 (v := .bool false) rfl (asZ (.bool false) rfl (nZ ?_)))
    refine Vc.ret' ?_
    refine res_tmp (v := .bool false) rfl (res_nil ?_)
    show Gives _ (.bool false) _
    exact gives_out hrg (VW.refl _) (hQ _ h)
  replace h := h.2 hb
  refine Wl.guardF rfl rfl hb rfl ?_
  refine Wl.guardF rfl rfl hb rfl ?_
  refine Wl.guardF rfl rfl hb rfl ?_
  refine Wl.guardF rfl rfl hb rfl ?_
  refine wZ rg (o_pickF rfl hb (v := .bool false) rfl (mvZ (.bool false) rfl ?_))
  refine Wl.guardF rfl rfl rfl rfl ?_
  refine Wl.guardF rfl rfl rfl rfl ?_
  refine Wl.guardF rfl rfl rfl rfl ?_
  refine Wl.guardF rfl rfl rfl rfl ?_
  refine Wl.guardF rfl rfl rfl rfl ?_
  refine wZ rg (o_pickF rfl rfl (v := .bool false) rfl (asZ (.bool false) rfl (nZ ?_)))
  refine Vc.ret' ?_
  refine res_tmp (v := .bool false) rfl (res_nil ?_)
  show Gives _ (.bool false) _
  exact gives_out hrg (VW.refl _) (hQ _ h)
theorem ref02_From_ctr {neg : Bool} {num : List Int} {den : List Int} {Q : GRat → Int → Prop} {S : St} {R : AV → St → Prop} (h : ref02_From_W neg num den Q) (hQ : ∀ r1 r2, Q r1 r2 → R (.tuple [eRat r1, AV.int .i64 r2]) S) :
    Ctr Try.prog 137 [AV.bool neg, eL (AV.int .u32) num, eL (AV.int .u32) den] S R := by
  unfold ref02_From_W at h
  refine enterT Try.func137 rfl Try.ntmps137 Try.results137 (by kernel_rfl) (fun rg hrg => ?_)
  refine qZ (rZ (wZ rg (o_alloc zav27 ok27 (kk := 3) rfl (fun g1 => (asZ (.int .i64 0) rfl (nZ (qZ (qZ (rZ (mvZ (eL (AV.int .u32) den) rfl (wZ rg (o_call (us := [eL (AV.int .u32) den]) rfl (vl' vr (vn)) (ref01_Bits_ctr h fun r h => (wZ rg (o_eql rfl rfl (nZ ?_))))))))))))))))
  refine Vc.cond' rfl (fun hb => ?_) (fun hb => ?_)
  · replace h := h.1 hb
    refine qZ (rZ (wZ rg (o_build td27 zav27 bok27 szs27 sz27 (ps := []) rfl rfl (v := .agg [.bool false, .nil, .nil]) rfl (wZ rg (o_storeB (atL (k := 6) rfl) sz27 (by decide) rfl (w := .agg [.bool false, .nil, .nil]) rfl rfl rfl (v := .agg [.bool false, .nil, .nil]) rfl setL (asZ (.int .i64 8) rfl (nZ ?_)))))))
    refine Vc.ret' ?_
    refine res_cellA (atL (k := 6) rfl) sz27 (by decide) ag27 rfl rfl (v := .agg [.bool false, .nil, .nil]) rfl (res_tmp (v := .int .i64 8) rfl (res_nil ?_))
    show Gives _ (.tuple [.agg [.bool false, .nil, .nil], .int .i64 8]) _
    exact gives_out hrg (VW.tupL (vl' (VW.aggL (vl' vr (vl' (VW.nilL) (vl' (VW.nilL) (vn))))) (vl' vr (vn)))) (hQ _ _ h)
  replace h := h.2 hb
  refine Vc.skip' ?_
  refine qZ (qZ (rZ (mvZ (eL (AV.int .u32) num) rfl (wZ rg (o_call (us := [eL (AV.int .u32) num]) rfl (vl' vr (vn)) (ref01_Bits_ctr h fun r1 h => (wZ rg (o_eql rfl rfl (nZ ?_)))))))))
  refine Vc.cond' rfl (fun hb1 => ?_) (fun hb1 => ?_)
  · replace h := h.1 hb1
    refine qZ (rZ (wZ rg (o_build td27 zav27 bok27 szs27 sz27 (ps := []) rfl rfl (v := .agg [.bool false, .nil, .nil]) rfl (wZ rg (o_storeB (atL (k := 6) rfl) sz27 (by decide) rfl (w := .agg [.bool false, .nil, .nil]) rfl rfl rfl (v := .agg [.bool false, .nil, .nil]) rfl setL (asZ (.int .i64 0) rfl (nZ ?_)))))))
    refine Vc.ret' ?_
    refine res_cellA (atL (k := 6) rfl) sz27 (by decide) ag27 rfl rfl (v := .agg [.bool false, .nil, .nil]) rfl (res_tmp (v := .int .i64 0) rfl (res_nil ?_))
    show Gives _ (.tuple [.agg [.bool false, .nil, .nil], .int .i64 0]) _
    exact gives_out hrg (VW.tupL (vl' (VW.aggL (vl' vr (vl' (VW.nilL) (vl' (VW.nilL) (vn))))) (vl' vr (vn)))) (hQ _ _ h)
  replace h := h.2 hb1
  refine Vc.skip' ?_
  refine qZ (rZ (mvZ (eL (AV.int .u32) num) rfl (mvZ (eL (AV.int .u32) den) rfl (wZ rg (o_call (us := [eL (AV.int .u32) num, eL (AV.int .u32) den]) rfl (vl' vr (vl' vr (vn))) (ref01_Gcd_ctr h fun g2 h => (asZ (eL (AV.int .u32) g2) rfl (nZ (qZ (rZ (mvZ (eL (AV.int .u32) num) rfl (mvZ (eL (AV.int .u32) g2) rfl ?_))))))))))))
  refine wZ rg (o_call (us := [eL (AV.int .u32) num, eL (AV.int .u32) g2]) rfl (vl' vr (vl' vr (vn))) (ref01_Div_ctr h fun r2 r3 r4 h => (mvZ (.tuple [eL (AV.int .u32) r2, eL (AV.int .u32) r3, .int .i64 r4]) rfl (wZ rg (o_extract (v := eL (AV.int .u32) r2) rfl rfl rfl (wZ rg (o_extract (v := eL (AV.int .u32) r3) rfl rfl rfl (wZ rg (o_extract (v := .int .i64 r4) rfl rfl rfl ?_)))))))))
  refine asZ (eL (AV.int .u32) r2) rfl (asZ (eL (AV.int .u32) r3) rfl (asZ (.int .i64 r4) rfl (nZ (qZ (rZ (mvZ (eL (AV.int .u32) den) rfl (mvZ (eL (AV.int .u32) g2) rfl (wZ rg (o_call (us := [eL (AV.int .u32) den, eL (AV.int .u32) g2]) rfl (vl' vr (vl' vr (vn))) (ref01_Div_ctr h fun r5 r6 r7 h => (mvZ (.tuple [eL (AV.int .u32) r5, eL (AV.int .u32) r6, .int .i64 r7]) rfl ?_)))))))))))
  refine wZ rg (o_extract (v := eL (AV.int .u32) r5) rfl rfl rfl (wZ rg (o_extract (v := eL (AV.int .u32) r6) rfl rfl rfl (wZ rg (o_extract (v := .int .i64 r7) rfl rfl rfl (asZ (eL (AV.int .u32) r5) rfl (asZ (eL (AV.int .u32) r6) rfl (asZ (.int .i64 r7) rfl (nZ (qZ (rZ (mvZ (.bool neg) rfl (mvZ (eL (AV.int .u32) r2) rfl (mvZ (eL (AV.int .u32) r5) rfl ?_))))))))))))))
  refine wZ rg (o_build td27 zav27 bok27 szs27 sz27 (ps := [(0, .bool neg), (1, eL (AV.int .u32) r2), (2, eL (AV.int .u32) r5)]) rfl rfl (v := .agg [.bool neg, eL (AV.int .u32) r2, eL (AV.int .u32) r5]) rfl ?_)
  refine wZ rg (o_storeB (atL (k := 6) rfl) sz27 (by decide) rfl (w := .agg [.bool neg, eL (AV.int .u32) r2, eL (AV.int .u32) r5]) rfl rfl rfl (v := .agg [.bool neg, eL (AV.int .u32) r2, eL (AV.int .u32) r5]) rfl setL (asZ (.int .i64 0) rfl (nZ ?_)))
  refine Vc.ret' ?_
  refine res_cellA (atL (k := 6) rfl) sz27 (by decide) ag27 rfl rfl (v := .agg [.bool neg, eL (AV.int .u32) r2, eL (AV.int .u32) r5]) rfl (res_tmp (v := .int .i64 0) rfl (res_nil ?_))
  show Gives _ (.tuple [.agg [.bool neg, eL (AV.int .u32) r2, eL (AV.int .u32) r5], .int .i64 0]) _
  exact gives_out hrg (VW.tupL (vl' vr (vl' vr (vn)))) (hQ _ _ h)
theorem ref02_size_ctr {n : Int} {Q : List Int → Prop} {S : St} {R : AV → St → Prop} (h : ref02_size_W n Q) (hQ : ∀ r1, Q r1 → R (eL (AV.int .u32) r1) S) :
    Ctr Try.prog 167 [AV.int .i64 n] S R := by
  unfold ref02_size_W at h
  refine enterT Try.func167 rfl Try.ntmps167 Try.results167 (by kernel_rfl) (fun rg hrg => ?_)
  refine qZ (rZ (asZ .nil rfl (nZ (qZ (rZ (mvZ (.int .i64 n) rfl (wZ rg (o_conv td3 td179 rfl (asZ (.int .u64 (IntKind.wrap .u64 n)) rfl (nZ ?_))))))))))
  obtain ⟨J, h, hJ⟩ := h
  refine Vc.join' (σ := (Int)) (fun y => J y) (fun y => envOf [(3, .int .u64 y)]) (fun y => stL S rg []) (fun u h => ?_) ?_
  · replace h := hJ u h
    show Vc _ _ _ _ (envOf [(3, .int .u64 u)]) (stL S rg [])
    refine qZ (rZ (mvZ (.int .u64 u) rfl (wZ rg (o_conv td179 td173 rfl (mvZ (.int .u64 u) rfl (wZ rg (o_shr rfl rfl (by decide) (wZ rg (o_conv td179 td173 rfl (wZ rg (o_bslice td25 ok173 zav173 (es := [.int .u32 (IntKind.wrap .u32 u), .int .u32 (IntKind.wrap .u32 (u / 2 ^ (Int.toNat 32)))]) rfl (kk := 1) rfl rfl rfl rfl rfl rfl (fun g1 => ?_))))))))))))
    refine asZ (.sl 1 rg 15 g1 0 ([(IntKind.wrap .u32 u), (IntKind.wrap .u32 (u / 2 ^ (Int.toNat 32)))].length)) rfl (nZ ?_)
    refine Vc.ret' ?_
    refine res_tmp (v := .sl 1 rg 15 g1 0 ([(IntKind.wrap .u32 u), (IntKind.wrap .u32 (u / 2 ^ (Int.toNat 32)))].length)) rfl (res_nil ?_)
    show Gives _ (.sl 1 rg 15 g1 0 ([(IntKind.wrap .u32 u), (IntKind.wrap .u32 (u / 2 ^ (Int.toNat 32)))].length)) _
    refine gives_freeze (k := 15) (xs := List.map (AV.int .u32) [(IntKind.wrap .u32 u), (IntKind.wrap .u32 (u / 2 ^ (Int.toNat 32)))]) rfl (v' := eL (AV.int .u32) [(IntKind.wrap .u32 u), (IntKind.wrap .u32 (u / 2 ^ (Int.toNat 32)))]) (frz_full rfl) ?_
    exact gives_out hrg (VW.refl _) (hQ _ h)
  refine qZ (rZ (mvZ (.int .i64 n) rfl (wZ rg (o_lss rfl rfl (nZ ?_)))))
  refine Vc.cond' rfl (fun hb => ?_) (fun hb => ?_)
  · replace h := h.1 hb
    refine rZ ?_
    refine mvZ (.int .u64 (IntKind.wrap .u64 n)) rfl (wZ rg (o_neg rfl ?_))
    obtain ⟨u1, hs⟩ : ∃ qz, qz = (IntKind.wrap .u64 (0 - (IntKind.wrap .u64 n))) := ⟨_, rfl⟩
    replace h := h u1 hs
    refine wZ rg (o_assign (v := .int .u64 u1) (by subst hs; rfl) (nZ ?_))
    exact ⟨u1, (canon (fc vr (fn)) (sn)), h⟩
  replace h := h.2 hb
  refine Vc.skip' ?_
  exact ⟨(IntKind.wrap .u64 n), (canon (fc vr (fn)) (sn)), h⟩
theorem ref02_Make_ctr {n : Int} {d : Int} {Q : GRat → Int → Prop} {S : St} {R : AV → St → Prop} (h : ref02_Make_W n d Q) (hQ : ∀ r1 r2, Q r1 r2 → R (.tuple [eRat r1, AV.int .i64 r2]) S) :
    Ctr Try.prog 141 [AV.int .i64 n, AV.int .i64 d] S R := by
  unfold ref02_Make_W at h
  refine enterT Try.func141 rfl Try.ntmps141 Try.results141 (by kernel_rfl) (fun rg hrg => ?_)
  refine qZ (rZ (wZ rg (o_alloc zav27 ok27 (kk := 3) rfl (fun g1 => (asZ (.int .i64 0) rfl (nZ (qZ (rZ (mvZ (.int .i64 n) rfl (wZ rg (o_lss rfl rfl (mvZ (.int .i64 d) rfl (wZ rg (o_lss rfl rfl (wZ rg (o_neqB td4 rfl rfl (mvZ (.int .i64 n) rfl (wZ rg (o_call (us := [AV.int .i64 n]) rfl (vl' vr (vn)) (ref02_size_ctr h fun r h => (mvZ (.int .i64 d) rfl ?_)))))))))))))))))))))
  refine wZ rg (o_call (us := [AV.int .i64 d]) rfl (vl' vr (vn)) (ref02_size_ctr h fun r1 h => (wZ rg (o_call (us := [AV.bool ((decide (n < 0)) != (decide (d < 0))), eL (AV.int .u32) r, eL (AV.int .u32) r1]) rfl (vl' vr (vl' vr (vl' vr (vn)))) (ref02_From_ctr h fun r2 r3 h => (wZ rg (o_extract (v := eRat r2) rfl rfl rfl (wZ rg (o_extract (v := .int .i64 r3) rfl rfl rfl ?_)))))))))
  refine wZ rg (o_storeB (atL (k := 4) rfl) sz27 (by decide) rfl (w := eRat r2) rfl rfl rfl (v := eRat r2) rfl setL (asZ (.int .i64 r3) rfl (nZ ?_)))
  refine Vc.ret' ?_
  refine res_cellA (atL (k := 4) rfl) sz27 (by decide) ag27 rfl rfl (v := eRat r2) rfl (res_tmp (v := .int .i64 r3) rfl (res_nil ?_))
  show Gives _ (.tuple [eRat r2, .int .i64 r3]) _
  exact gives_out hrg (VW.tupL (vl' vr (vl' vr (vn)))) (hQ _ _ h)
theorem ref02_Of_ctr {n : Int} {Q : GRat → Prop} {S : St} {R : AV → St → Prop} (h : ref02_Of_W n Q) (hQ : ∀ r1, Q r1 → R (eRat r1) S) :
    Ctr Try.prog 74 [AV.int .i64 n] S R := by
  unfold ref02_Of_W at h
  refine enterT Try.func74 rfl Try.ntmps74 Try.results74 (by kernel_rfl) (fun rg hrg => ?_)
  refine qZ (rZ (wZ rg (o_alloc zav27 ok27 (kk := 3) rfl (fun g1 => (nZ (qZ (rZ (mvZ (.int .i64 n) rfl (wZ rg (o_call (us := [AV.int .i64 n, AV.int .i64 1]) rfl (vl' vr (vl' vr (vn))) (ref02_Make_ctr h fun r r1 h => (mvZ (.tuple [eRat r, .int .i64 r1]) rfl (wZ rg (o_extract (v := eRat r) rfl rfl rfl (wZ rg (o_extract (v := .int .i64 r1) rfl rfl rfl ?_))))))))))))))))
  refine wZ rg (o_alloc zav27 ok27 (kk := 3) rfl (fun g2 => (wZ rg (o_storeB (atL (k := 3) rfl) sz27 (by decide) rfl (w := eRat r) rfl rfl rfl (v := eRat r) rfl setL (asZ (.int .i64 r1) rfl (nZ (qZ (rZ (wZ rg (o_loadBA (atL (k := 3) rfl) sz27 (by decide) ag27 rfl rfl (v := eRat r) rfl (wZ rg (o_storeB (atL (k := 2) rfl) sz27 (by decide) rfl (w := eRat r) rfl rfl rfl (v := eRat r) rfl setL (nZ ?_)))))))))))))
  refine Vc.ret' ?_
  refine res_cellA (atL (k := 2) rfl) sz27 (by decide) ag27 rfl rfl (v := eRat r) rfl (res_nil ?_)
  show Gives _ (eRat r) _
  exact gives_out hrg (VW.refl _) (hQ _ h)
theorem base_Num_ctr {err : Option Int} {Q : Int → Prop} {S : St} {R : AV → St → Prop} (h : base_Num_W err Q) (hQ : ∀ r1, Q r1 → R (AV.int .i64 r1) S) :
    Ctr Try.prog 27 [eErr 107 err] S R := by
  unfold base_Num_W at h
  refine enterT Try.func27 rfl Try.ntmps27 Try.results27 (by kernel_rfl) (fun rg hrg => ?_)
  refine qZ (rZ (asZ (.int .i64 0) rfl (nZ (qZ (qZ (rZ (mvZ (eErr 107 err) rfl (wZ rg (o_isnil td31 (E := 107) rfl rfl rfl (nZ ?_))))))))))
  refine Vc.cond' rfl (fun hb => ?_) (fun hb => ?_)
  · replace h := h.1 hb
    refine qZ (rZ (asZ (.int .i64 0) rfl (nZ ?_)))
    refine Vc.ret' ?_
    refine res_tmp (v := .int .i64 0) rfl (res_nil ?_)
    show Gives _ (.int .i64 0) _
    exact gives_out hrg (VW.refl _) (hQ _ h)
  replace h := h.2 hb
  refine Vc.skip' ?_
  refine qZ (qZ (rZ (mvZ (eErr 107 err) rfl (wZ rg (o_assertE td107 ok107 zav107 rfl (mvZ (.tuple [.int .i64 (Option.getD err 0), .bool (Option.isSome err)]) rfl (wZ rg (o_extract (v := .int .i64 (Option.getD err 0)) rfl rfl rfl (wZ rg (o_extract (v := .bool (Option.isSome err)) rfl rfl rfl (asZ (.int .i64 (Option.getD err 0)) rfl (asZ (.bool (Option.isSome err)) rfl (nZ (qZ (rZ ?_)))))))))))))))
  refine mvZ (.bool (Option.isSome err)) rfl (nZ ?_)
  refine Vc.cond' rfl (fun hb1 => ?_) (fun hb1 => ?_)
  · replace h := h.1 hb1
    refine qZ (rZ (mvZ (.int .i64 (Option.getD err 0)) rfl (asZ (.int .i64 (Option.getD err 0)) rfl (nZ ?_))))
    refine Vc.ret' ?_
    refine res_tmp (v := .int .i64 (Option.getD err 0)) rfl (res_nil ?_)
    show Gives _ (.int .i64 (Option.getD err 0)) _
    exact gives_out hrg (VW.refl _) (hQ _ h)
  replace h := h.2 hb1
  refine Vc.skip' ?_
  refine qZ (rZ (asZ (.int .i64 (-1)) rfl (nZ ?_)))
  refine Vc.ret' ?_
  refine res_tmp (v := .int .i64 (-1)) rfl (res_nil ?_)
  show Gives _ (.int .i64 (-1)) _
  exact gives_out hrg (VW.refl _) (hQ _ h)
theorem base_Is_ctr {err : Option Int} {code : Int} {Q : Bool → Prop} {S : St} {R : AV → St → Prop} (h : base_Is_W err code Q) (hQ : ∀ r1, Q r1 → R (AV.bool r1) S) :
    Ctr Try.prog 65 [eErr 107 err, AV.int .i64 code] S R := by
  unfold base_Is_W at h
  refine enterT Try.func65 rfl Try.ntmps65 Try.results65 (by kernel_rfl) (fun rg hrg => ?_)
  refine qZ (rZ (asZ (.bool false) rfl (nZ (qZ (rZ (mvZ (eErr 107 err) rfl (wZ rg (o_assertE td107 ok107 zav107 rfl (mvZ (.tuple [.int .i64 (Option.getD err 0), .bool (Option.isSome err)]) rfl (wZ rg (o_extract (v := .int .i64 (Option.getD err 0)) rfl rfl rfl (wZ rg (o_extract (v := .bool (Option.isSome err)) rfl rfl rfl (asZ (.int .i64 (Option.getD err 0)) rfl ?_))))))))))))))
  refine asZ (.bool (Option.isSome err)) rfl (nZ (qZ (rZ (mvZ (.bool (Option.isSome err)) rfl (mvZ (.bool (Option.isSome err)) rfl ?_)))))
  refine Wl.guard rfl rfl (fun hb => ?_) (fun hb => ?_)
  · replace h := h.1 hb
    refine mvZ (.int .i64 (Option.getD err 0)) rfl ?_
    refine Wl.guardT rfl rfl hb ?_
    refine mvZ (.int .i64 code) rfl ?_
    refine Wl.guardT rfl rfl hb ?_
    refine wZ rg (o_eql rfl rfl (wZ rg (o_pickT rfl hb (v := .bool ((Option.getD err 0) == code)) rfl (asZ (.bool ((Option.getD err 0) == code)) rfl (nZ ?_)))))
    refine Vc.ret' ?_
    refine res_tmp (v := .bool ((Option.getD err 0) == code)) rfl (res_nil ?_)
    show Gives _ (.bool ((Option.getD err 0) == code)) _
    exact gives_out hrg (VW.refl _) (hQ _ h)
  replace h := h.2 hb
  refine Wl.guardF rfl rfl hb rfl ?_
  refine Wl.guardF rfl rfl hb rfl ?_
  refine wZ rg (o_pickF rfl hb (v := .bool false) rfl (asZ (.bool false) rfl (nZ ?_)))
  refine Vc.ret' ?_
  refine res_tmp (v := .bool false) rfl (res_nil ?_)
  show Gives _ (.bool false) _
  exact gives_out hrg (VW.refl _) (hQ _ h)
theorem base_Clip_ctr {n : Int} {lo : Int} {hi : Int} {Q : Int → Prop} {S : St} {R : AV → St → Prop} (h : base_Clip_W n lo hi Q) (hQ : ∀ r1, Q r1 → R (AV.int .i64 r1) S) :
    Ctr Try.prog 82 [AV.int .i64 n, AV.int .i64 lo, AV.int .i64 hi] S R := by
  unfold base_Clip_W at h
  refine enterT Try.func82 rfl Try.ntmps82 Try.results82 (by kernel_rfl) (fun rg hrg => ?_)
  refine qZ (rZ (asZ (.int .i64 0) rfl (nZ (qZ (rZ (mvZ (.int .i64 lo) rfl (mvZ (.int .i64 n) rfl (mvZ (.int .i64 hi) rfl (wZ rg (o_min rfl rfl (wZ rg (o_max rfl rfl (asZ (.int .i64 (max lo (min n hi))) rfl (nZ ?_))))))))))))))
  refine Vc.ret' ?_
  refine res_tmp (v := .int .i64 (max lo (min n hi))) rfl (res_nil ?_)
  show Gives _ (.int .i64 (max lo (min n hi))) _
  exact gives_out hrg (VW.refl _) (hQ _ h)
end Go.Proofs.Ytonbnfgknijpoaa
