/- Walks of functions. Conditions: none. -/
import Derived.Test.YtonbnfgknijpoaaWB
import Derived.Test.YtonbnfgknijpoaaGgTy
import Derived.Test.YtonbnfgknijpoaaKA
import Derived.Test.YtonbnfgknijpoaaKAb
import Derived.Test.YtonbnfgknijpoaaKB
namespace Go.Proofs.Ytonbnfgknijpoaa
open Go.Gg
set_option maxRecDepth 100000
theorem ref02_Valid_ctr {a : GRat} {Q : Bool → Prop} {S : St} {R : AV → St → Prop} (h : ref02_Valid_W a Q) (hQ : ∀ r1, Q r1 → R (AV.bool r1) S) :
    Ctr Try.prog 147 [eRat a] S R := by
  unfold ref02_Valid_W at h
  refine enterT Try.func147 rfl Try.ntmps147 Try.results147 (by kernel_rfl) (fun rg hrg => ?_)
  refine qZ (rZ (wZ rg (o_box (v := eRat a) rfl rfl (kk := 3) rfl (by decide) (fun g1 => (asZ (.bool false) rfl (nZ (qZ ?_)))))))
  refine Vc.drawn' mixed rg (fun _ => jcr2) (by kernel_rfl) ?_
  refine dP rfl rfl (o_faP td27 rfl rfl (by rw [sz25]; decide) rfl (dL (E := ([(rg, 1)], [])) rfl rfl (by simp) (cfn) (o_loadB1 (atL (k := 1) rfl) sz25 ag25 rfl rfl (v := eL (AV.int .u32) a.Num) rfl (dP rfl rfl (o_len td25 rfl (dP rfl rfl (o_faP td27 rfl rfl (by rw [sz25]; decide) rfl ?_)))))))
  refine dL (E := ([(rg, 1)], [])) rfl rfl (by simp) (cfa (by simp [apartE]) (cfn)) (o_loadB1 (atL (k := 1) rfl) sz25 ag25 rfl rfl (v := eL (AV.int .u32) a.Den) rfl (dP rfl rfl (o_len td25 rfl (dP rfl rfl (o_assign (v := .int .i64 (a.Num.length : Int)) rfl (dP rfl rfl (o_assign (v := .int .i64 (a.Den.length : Int)) rfl (dN (qZ ?_)))))))))
  obtain ⟨J, h, hJ⟩ := h
  refine Vc.join' (σ := ((Bool) × (Nat))) (fun y => J y.1) (fun y => envOf [(1, .ptr rg 1 y.2 0 0), (3, .int .i64 (a.Num.length : Int)), (4, .int .i64 (a.Den.length : Int)), (16, .bool y.1)]) (fun y => stL S rg [(1, .arr 3 [eRat a], y.2)]) (fun y h => ?_) ?_
  · obtain ⟨x, g2⟩ := y
    replace h := hJ x h
    show Vc _ _ _ _ (envOf [(1, .ptr rg 1 g2 0 0), (3, .int .i64 (a.Num.length : Int)), (4, .int .i64 (a.Den.length : Int)), (16, .bool x)]) (stL S rg [(1, .arr 3 [eRat a], g2)])
    refine Vc.cond' rfl (fun hb => ?_) (fun hb => ?_)
    · replace h := h.1 hb
      refine qZ (rZ (mvZ (.int .i64 (a.Num.length : Int)) rfl (wZ rg (o_eql rfl rfl (mvZ (.bool ((a.Num.length : Int) == 0)) rfl ?_)))))
      refine Wl.guard rfl rfl (fun hb1 => ?_) (fun hb1 => ?_)
      · replace h := h.1 hb1
        refine mvZ (.int .i64 (a.Den.length : Int)) rfl ?_
        refine Wl.guardT rfl rfl hb1 ?_
        refine wZ rg (o_eql rfl rfl (wZ rg (o_pickT rfl hb1 (v := .bool ((a.Den.length : Int) == 0)) rfl (mvZ (.bool ((a.Den.length : Int) == 0)) rfl ?_))))
        refine Wl.guard rfl rfl (fun hb2 => ?_) (fun hb2 => ?_)
        · replace h := h.1 hb2
          refine wZ rg (o_faP td27 rfl rfl (by rw [sz4]; decide) rfl ?_)
          refine Wl.guardT rfl rfl hb2 ?_
          refine wZ rg (o_loadB1 (atL (k := 1) rfl) sz4 ag4 rfl rfl (v := .bool a.Neg) rfl ?_)
          refine Wl.guardT rfl rfl hb2 ?_
          refine wZ rg (o_not rfl (wZ rg (o_pickT rfl hb2 (v := .bool (!a.Neg)) rfl (asZ (.bool (!a.Neg)) rfl (nZ ?_)))))
          refine Vc.ret' ?_
          refine res_tmp (v := .bool (!a.Neg)) rfl (res_nil ?_)
          show Gives _ (.bool (!a.Neg)) _
          exact gives_out hrg (VW.refl _) (hQ _ h)
        replace h := h.2 hb2
        refine Wl.guardF rfl rfl hb2 rfl ?_
        refine Wl.guardF rfl rfl hb2 rfl ?_
        refine wZ rg (o_pickF rfl hb2 (v := .bool false) rfl (asZ (.bool false) rfl (nZ ?_)))
        refine Vc.ret' ?_
        refine res_tmp (v := .bool false) rfl (res_nil ?_)
        show Gives _ (.bool false) _
        exact gives_out hrg (VW.refl _) (hQ _ h)
      replace h := h.2 hb1
      refine Wl.guardF rfl rfl hb1 rfl ?_
      refine wZ rg (o_pickF rfl hb1 (v := .bool false) rfl (mvZ (.bool false) rfl ?_))
      refine Wl.guardF rfl rfl rfl rfl ?_
      refine Wl.guardF rfl rfl rfl rfl ?_
      refine Wl.guardF rfl rfl rfl rfl ?_
      refine wZ rg (o_pickF rfl rfl (v := .bool false) rfl (asZ (.bool false) rfl (nZ ?_)))
      refine Vc.ret' ?_
      refine res_tmp (v := .bool false) rfl (res_nil ?_)
      show Gives _ (.bool false) _
      exact gives_out hrg (VW.refl _) (hQ _ h)
    replace h := h.2 hb
    refine Vc.skip' ?_
    refine qZ (rZ (wZ rg (o_faP td27 rfl rfl (by rw [sz25]; decide) rfl (wZ rg (o_loadB1 (atL (k := 1) rfl) sz25 ag25 rfl rfl (v := eL (AV.int .u32) a.Num) rfl (mvZ (.int .i64 (a.Num.length : Int)) rfl (wZ rg (o_subG rfl rfl h.1 ?_))))))))
    replace h := h.2
    refine wZ rg (o_idxL td25 sz173 (by decide) (fun _ => rfl) rfl rfl h.1 ?_)
    replace h := h.2
    refine wZ rg (o_loadI1 sz173 ag173 rfl rfl (v := .int .u32 (at' a.Num ((a.Num.length : Int) - 1))) rfl (wZ rg (o_neq rfl rfl (mvZ (.bool ((at' a.Num ((a.Num.length : Int) - 1)) != 0)) rfl ?_))))
    refine Wl.guard rfl rfl (fun hb3 => ?_) (fun hb3 => ?_)
    · replace h := h.1 hb3
      refine wZ rg (o_faP td27 rfl rfl (by rw [sz25]; decide) rfl ?_)
      refine Wl.guardT rfl rfl hb3 ?_
      refine wZ rg (o_loadB1 (atL (k := 1) rfl) sz25 ag25 rfl rfl (v := eL (AV.int .u32) a.Den) rfl ?_)
      refine Wl.guardT rfl rfl hb3 ?_
      refine mvZ (.int .i64 (a.Den.length : Int)) rfl ?_
      refine Wl.guardT rfl rfl hb3 ?_
      refine wZ rg (o_subG rfl rfl h.1 ?_)
      replace h := h.2
      refine Wl.guardT rfl rfl hb3 ?_
      refine wZ rg (o_idxL td25 sz173 (by decide) (fun _ => rfl) rfl rfl h.1 ?_)
      replace h := h.2
      refine Wl.guardT rfl rfl hb3 ?_
      refine wZ rg (o_loadI1 sz173 ag173 rfl rfl (v := .int .u32 (at' a.Den ((a.Den.length : Int) - 1))) rfl ?_)
      refine Wl.guardT rfl rfl hb3 ?_
      refine wZ rg (o_neq rfl rfl (wZ rg (o_pickT rfl hb3 (v := .bool ((at' a.Den ((a.Den.length : Int) - 1)) != 0)) rfl (mvZ (.bool ((at' a.Den ((a.Den.length : Int) - 1)) != 0)) rfl ?_))))
      refine Wl.guard rfl rfl (fun hb4 => ?_) (fun hb4 => ?_)
      · replace h := h.1 hb4
        refine wZ rg (o_faP td27 rfl rfl (by rw [sz25]; decide) rfl ?_)
        refine Wl.guardT rfl rfl hb4 ?_
        refine wZ rg (o_loadB1 (atL (k := 1) rfl) sz25 ag25 rfl rfl (v := eL (AV.int .u32) a.Num) rfl ?_)
        refine Wl.guardT rfl rfl hb4 ?_
        refine wZ rg (o_faP td27 rfl rfl (by rw [sz25]; decide) rfl ?_)
        refine Wl.guardT rfl rfl hb4 ?_
        refine wZ rg (o_loadB1 (atL (k := 1) rfl) sz25 ag25 rfl rfl (v := eL (AV.int .u32) a.Den) rfl ?_)
        refine Wl.guardT rfl rfl hb4 ?_
        refine wZ rg (o_call (us := [eL (AV.int .u32) a.Num, eL (AV.int .u32) a.Den]) rfl (vl' vr (vl' vr (vn))) (ref01_Gcd_ctr h fun r h => ?_))
        refine Wl.guardT rfl rfl hb4 ?_
        refine wZ rg (o_call (us := [eL (AV.int .u32) r]) rfl (vl' vr (vn)) (ref01_Bits_ctr h fun r1 h => ?_))
        refine Wl.guardT rfl rfl hb4 ?_
        refine wZ rg (o_eql rfl rfl (wZ rg (o_pickT rfl hb4 (v := .bool (r1 == 1)) rfl (asZ (.bool (r1 == 1)) rfl (nZ ?_)))))
        refine Vc.ret' ?_
        refine res_tmp (v := .bool (r1 == 1)) rfl (res_nil ?_)
        show Gives _ (.bool (r1 == 1)) _
        exact gives_out hrg (VW.refl _) (hQ _ h)
      replace h := h.2 hb4
      refine Wl.guardF rfl rfl hb4 rfl ?_
      refine Wl.guardF rfl rfl hb4 rfl ?_
      refine Wl.guardF rfl rfl hb4 rfl ?_
      refine Wl.guardF rfl rfl hb4 rfl ?_
      refine Wl.guardF rfl rfl hb4 rfl ?_
      refine Wl.guardF rfl rfl hb4 rfl ?_
      refine wZ rg (o_pickF rfl hb4 (v := .bool false) rfl (asZ (.bool false) rfl (nZ ?_)))
      refine Vc.ret' ?_
      refine res_tmp (v := .bool false) rfl (res_nil ?_)
      show Gives _ (.bool false) _
      exact gives_out hrg (VW.refl _) (hQ _ h)
    replace h := h.2 hb3
    refine Wl.guardF rfl rfl hb3 rfl ?_
    refine Wl.guardF rfl rfl hb3 rfl ?_
    refine Wl.guardF rfl rfl hb3 rfl ?_
    refine Wl.guardF rfl rfl hb3 rfl ?_
    refine Wl.guardF rfl rfl hb3 rfl ?_
    refine Wl.guardF rfl rfl hb3 rfl ?_
    refine wZ rg (o_pickF rfl hb3 (v := .bool false) rfl (mvZ (.bool false) rfl ?_))
    refine Wl.guardF rfl rfl rfl rfl ?_
    refine Wl.guardF rfl rfl rfl rfl ?_
    refine Wl.guardF rfl rfl rfl rfl ?_
    refine Wl.guardF rfl rfl rfl rfl ?_
    refine Wl.guardF rfl rfl rfl rfl ?_
    refine Wl.guardF rfl rfl rfl rfl ?_
    refine Wl.guardF rfl rfl rfl rfl ?_
    refine wZ rg (o_pickF rfl rfl (v := .bool false) rfl (asZ (.bool false) rfl (nZ ?_)))
    refine Vc.ret' ?_
    refine res_tmp (v := .bool false) rfl (res_nil ?_)
    show Gives _ (.bool false) _
    exact gives_out hrg (VW.refl _) (hQ _ h)
  refine rZ ?_
  refine mvZ (.int .i64 (a.Num.length : Int)) rfl (wZ rg (o_eql rfl rfl (mvZ (.bool ((a.Num.length : Int) == 0)) rfl ?_)))
  refine Wl.guard rfl rfl (fun hb5 => ?_) (fun hb5 => ?_)
  · replace h := h.2 hb5
    refine mvZ (.int .i64 (a.Den.length : Int)) rfl ?_
    refine Wl.guardT rfl rfl hb5 ?_
    refine wZ rg (o_eql rfl rfl (wZ rg (o_pickF rfl hb5 (v := .bool ((a.Den.length : Int) == 0)) rfl (nZ ?_))))
    exact ⟨(((a.Den.length : Int) == 0), g1), (canon (fc vr (fc vr (fc vr (fc vr (fn))))) (sc rfl (sn))), h⟩
  replace h := h.1 hb5
  refine Wl.guardF rfl rfl hb5 rfl ?_
  refine wZ rg (o_pickT rfl hb5 (v := .bool true) rfl (nZ ?_))
  exact ⟨(true, g1), (canon (fc vr (fc vr (fc vr (fc vr (fn))))) (sc rfl (sn))), h⟩
theorem ref02_Parts_ctr {a : GRat} {Q : Bool → List Int → List Int → Prop} {S : St} {R : AV → St → Prop} (h : ref02_Parts_W a Q) (hQ : ∀ r1 r2 r3, Q r1 r2 r3 → R (.tuple [AV.bool r1, eL (AV.int .u32) r2, eL (AV.int .u32) r3]) S) :
    Ctr Try.prog 135 [eRat a] S R := by
  unfold ref02_Parts_W at h
  refine enterT Try.func135 rfl Try.ntmps135 Try.results135 (by kernel_rfl) (fun rg hrg => ?_)
  refine qZ (rZ (wZ rg (o_box (v := eRat a) rfl rfl (kk := 3) rfl (by decide) (fun g1 => (asZ (.bool false) rfl (asZ .nil rfl (asZ .nil rfl (nZ (qZ ?_)))))))))
  obtain ⟨J, h, hJ⟩ := h
  refine Vc.join' (σ := ((Bool) × (Nat))) (fun y => J y.1) (fun y => envOf [(1, .ptr rg 1 y.2 0 0), (13, .bool y.1)]) (fun y => stL S rg [(1, .arr 3 [eRat a], y.2)]) (fun y h => ?_) ?_
  · obtain ⟨x, g2⟩ := y
    replace h := hJ x h
    show Vc _ _ _ _ (envOf [(1, .ptr rg 1 g2 0 0), (13, .bool x)]) (stL S rg [(1, .arr 3 [eRat a], g2)])
    refine Vc.cond' rfl (fun hb => ?_) (fun hb => ?_)
    · replace h := h.1 hb
      refine qZ (rZ (wZ rg (o_bslice td25 ok173 zav173 (es := [.int .u32 1]) rfl (kk := 1) rfl rfl rfl rfl rfl rfl (fun g3 => (asZ (.bool false) rfl (asZ .nil rfl (asZ (.sl 1 rg 14 g3 0 ([1].length)) rfl (nZ ?_))))))))
      refine Vc.ret' ?_
      refine res_tmp (v := .bool false) rfl (res_tmp (v := .nil) rfl (res_tmp (v := .sl 1 rg 14 g3 0 ([1].length)) rfl (res_nil ?_)))
      show Gives _ (.tuple [.bool false, .nil, .sl 1 rg 14 g3 0 ([1].length)]) _
      refine gives_freeze (k := 14) (xs := List.map (AV.int .u32) [1]) rfl (v' := .tuple [.bool false, .nil, eL (AV.int .u32) [1]]) (VW.tupL (vl' vr (vl' vr (vl' (frz_full rfl) (vn))))) ?_
      exact gives_out hrg (VW.tupL (vl' vr (vl' (VW.nilL) (vl' vr (vn))))) (hQ _ _ _ h)
    replace h := h.2 hb
    refine Vc.skip' ?_
    refine qZ ?_
    refine Vc.drawn' mixed rg (fun _ => jcr2) (by kernel_rfl) ?_
    refine dP rfl rfl (o_faP td27 rfl rfl (by rw [sz4]; decide) rfl (dL (E := ([(rg, 1)], [])) rfl rfl (by simp) (cfn) (o_loadB1 (atL (k := 1) rfl) sz4 ag4 rfl rfl (v := .bool a.Neg) rfl (dP rfl rfl (o_faP td27 rfl rfl (by rw [sz25]; decide) rfl (dL (E := ([(rg, 1)], [])) rfl rfl (by simp) (cfa (by simp [apartE]) (cfn)) (o_loadB1 (atL (k := 1) rfl) sz25 ag25 rfl rfl (v := eL (AV.int .u32) a.Num) rfl ?_)))))))
    refine dP rfl rfl (o_faP td27 rfl rfl (by rw [sz25]; decide) rfl (dL (E := ([(rg, 1)], [])) rfl rfl (by simp) (cfa (by simp [apartE]) (cfa (by simp [apartE]) (cfn))) (o_loadB1 (atL (k := 1) rfl) sz25 ag25 rfl rfl (v := eL (AV.int .u32) a.Den) rfl (dP rfl rfl (o_assign (v := .bool a.Neg) rfl (dP rfl rfl (o_assign (v := eL (AV.int .u32) a.Num) rfl ?_)))))))
    refine dP rfl rfl (o_assign (v := eL (AV.int .u32) a.Den) rfl (dN ?_))
    refine Vc.ret' ?_
    refine res_tmp (v := .bool a.Neg) rfl (res_tmp (v := eL (AV.int .u32) a.Num) rfl (res_tmp (v := eL (AV.int .u32) a.Den) rfl (res_nil ?_)))
    show Gives _ (.tuple [.bool a.Neg, eL (AV.int .u32) a.Num, eL (AV.int .u32) a.Den]) _
    exact gives_out hrg (VW.tupL (vl' vr (vl' vr (vl' vr (vn))))) (hQ _ _ _ h)
  refine rZ ?_
  refine wZ rg (o_loadBA (atL (k := 1) rfl) sz27 (by decide) ag27 rfl rfl (v := eRat a) rfl (wZ rg (o_call (us := [eRat a]) rfl (vl' vr (vn)) (ref02_Valid_ctr h fun r h => (wZ rg (o_not rfl (mvZ (.bool (!r)) rfl ?_)))))))
  refine Wl.guard rfl rfl (fun hb1 => ?_) (fun hb1 => ?_)
  · replace h := h.2 hb1
    refine wZ rg (o_faP td27 rfl rfl (by rw [sz25]; decide) rfl ?_)
    refine Wl.guardT rfl rfl hb1 ?_
    refine wZ rg (o_loadB1 (atL (k := 1) rfl) sz25 ag25 rfl rfl (v := eL (AV.int .u32) a.Num) rfl ?_)
    refine Wl.guardT rfl rfl hb1 ?_
    refine wZ rg (o_len td25 rfl ?_)
    refine Wl.guardT rfl rfl hb1 ?_
    refine wZ rg (o_eql rfl rfl (wZ rg (o_pickF rfl hb1 (v := .bool ((a.Num.length : Int) == 0)) rfl (nZ ?_))))
    exact ⟨(((a.Num.length : Int) == 0), g1), (canon (fc vr (fc vr (fn))) (sc rfl (sn))), h⟩
  replace h := h.1 hb1
  refine Wl.guardF rfl rfl hb1 rfl ?_
  refine Wl.guardF rfl rfl hb1 rfl ?_
  refine Wl.guardF rfl rfl hb1 rfl ?_
  refine wZ rg (o_pickT rfl hb1 (v := .bool true) rfl (nZ ?_))
  exact ⟨(true, g1), (canon (fc vr (fc vr (fn))) (sc rfl (sn))), h⟩
theorem ref02_Add_ctr {a : GRat} {b : GRat} {Q : GRat → Prop} {S : St} {R : AV → St → Prop} (h : ref02_Add_W a b Q) (hQ : ∀ r1, Q r1 → R (eRat r1) S) :
    Ctr Try.prog 72 [eRat a, eRat b] S R := by
  unfold ref02_Add_W at h
  refine enterT Try.func72 rfl Try.ntmps72 Try.results72 (by kernel_rfl) (fun rg hrg => ?_)
  refine qZ (rZ (wZ rg (o_box (v := eRat a) rfl rfl (kk := 3) rfl (by decide) (fun g1 => (wZ rg (o_box (v := eRat b) rfl rfl (kk := 3) rfl (by decide) (fun g2 => (wZ rg (o_alloc zav27 ok27 (kk := 3) rfl (fun g3 => (nZ (qZ (rZ (wZ rg (o_loadBA (atL (k := 2) rfl) sz27 (by decide) ag27 rfl rfl (v := eRat a) rfl ?_)))))))))))))))
  refine wZ rg (o_call (us := [eRat a]) rfl (vl' vr (vn)) (ref02_Parts_ctr h fun r r1 r2 h => (mvZ (.tuple [.bool r, eL (AV.int .u32) r1, eL (AV.int .u32) r2]) rfl (wZ rg (o_extract (v := .bool r) rfl rfl rfl (wZ rg (o_extract (v := eL (AV.int .u32) r1) rfl rfl rfl (wZ rg (o_extract (v := eL (AV.int .u32) r2) rfl rfl rfl (asZ (.bool r) rfl (asZ (eL (AV.int .u32) r1) rfl ?_)))))))))))
  refine asZ (eL (AV.int .u32) r2) rfl (nZ (qZ (rZ (wZ rg (o_loadBA (atL (k := 3) rfl) sz27 (by decide) ag27 rfl rfl (v := eRat b) rfl (wZ rg (o_call (us := [eRat b]) rfl (vl' vr (vn)) (ref02_Parts_ctr h fun r3 r4 r5 h => (mvZ (.tuple [.bool r3, eL (AV.int .u32) r4, eL (AV.int .u32) r5]) rfl (wZ rg (o_extract (v := .bool r3) rfl rfl rfl (wZ rg (o_extract (v := eL (AV.int .u32) r4) rfl rfl rfl ?_)))))))))))))
  refine wZ rg (o_extract (v := eL (AV.int .u32) r5) rfl rfl rfl (asZ (.bool r3) rfl (asZ (eL (AV.int .u32) r4) rfl (asZ (eL (AV.int .u32) r5) rfl (nZ (qZ (rZ (mvZ (eL (AV.int .u32) r1) rfl (mvZ (eL (AV.int .u32) r5) rfl (wZ rg (o_call (us := [eL (AV.int .u32) r1, eL (AV.int .u32) r5]) rfl (vl' vr (vl' vr (vn))) (ref01_Mul_ctr h fun x h => (mvZ (eL (AV.int .u32) r4) rfl ?_)))))))))))))
  refine mvZ (eL (AV.int .u32) r2) rfl (wZ rg (o_call (us := [eL (AV.int .u32) r4, eL (AV.int .u32) r2]) rfl (vl' vr (vl' vr (vn))) (ref01_Mul_ctr h fun y1 h => (mvZ (eL (AV.int .u32) r2) rfl (mvZ (eL (AV.int .u32) r5) rfl (wZ rg (o_call (us := [eL (AV.int .u32) r2, eL (AV.int .u32) r5]) rfl (vl' vr (vl' vr (vn))) (ref01_Mul_ctr h fun den h => (asZ (eL (AV.int .u32) x) rfl ?_)))))))))
  refine asZ (eL (AV.int .u32) y1) rfl (asZ (eL (AV.int .u32) den) rfl (nZ (qZ (qZ (rZ (mvZ (.bool r) rfl (mvZ (.bool r3) rfl (wZ rg (o_eqlB td4 rfl rfl (nZ ?_))))))))))
  refine Vc.cond' rfl (fun hb => ?_) (fun hb => ?_)
  · replace h := h.1 hb
    refine qZ (rZ (mvZ (.bool r) rfl (mvZ (eL (AV.int .u32) x) rfl (mvZ (eL (AV.int .u32) y1) rfl (wZ rg (o_call (us := [eL (AV.int .u32) x, eL (AV.int .u32) y1]) rfl (vl' vr (vl' vr (vn))) (ref01_Add_ctr h fun r6 h => (mvZ (eL (AV.int .u32) den) rfl (wZ rg (o_call (us := [AV.bool r, eL (AV.int .u32) r6, eL (AV.int .u32) den]) rfl (vl' vr (vl' vr (vl' vr (vn)))) (ref02_From_ctr h fun r7 r8 h => ?_)))))))))))
    refine mvZ (.tuple [eRat r7, .int .i64 r8]) rfl (wZ rg (o_extract (v := eRat r7) rfl rfl rfl (wZ rg (o_extract (v := .int .i64 r8) rfl rfl rfl (wZ rg (o_alloc zav27 ok27 (kk := 3) rfl (fun g4 => (wZ rg (o_storeB (atL (k := 14) rfl) sz27 (by decide) rfl (w := eRat r7) rfl rfl rfl (v := eRat r7) rfl setL (asZ (.int .i64 r8) rfl (nZ (qZ (rZ ?_)))))))))))))
    refine wZ rg (o_loadBA (atL (k := 14) rfl) sz27 (by decide) ag27 rfl rfl (v := eRat r7) rfl (wZ rg (o_storeB (atL (k := 4) rfl) sz27 (by decide) rfl (w := eRat r7) rfl rfl rfl (v := eRat r7) rfl setL (nZ ?_))))
    refine Vc.ret' ?_
    refine res_cellA (atL (k := 4) rfl) sz27 (by decide) ag27 rfl rfl (v := eRat r7) rfl (res_nil ?_)
    show Gives _ (eRat r7) _
    exact gives_out hrg (VW.refl _) (hQ _ h)
  replace h := h.2 hb
  refine Vc.skip' ?_
  obtain ⟨J, h, hJ⟩ := h
  refine Vc.join' (σ := ((Bool × (List Int) × (List Int)) × (Nat))) (fun y => J y.1) (fun y => envOf [(4, .ptr rg 4 y.2 0 0), (5, .bool y.1.1), (11, eL (AV.int .u32) y.1.2.1), (12, eL (AV.int .u32) y.1.2.2), (13, eL (AV.int .u32) den)]) (fun y => stL S rg [(4, .arr 3 [.agg [.bool false, .nil, .nil]], y.2)]) (fun y h => ?_) ?_
  · obtain ⟨⟨s, x1, y2⟩, g5⟩ := y
    replace h := hJ (s, x1, y2) h
    show Vc _ _ _ _ (envOf [(4, .ptr rg 4 g5 0 0), (5, .bool s), (11, eL (AV.int .u32) x1), (12, eL (AV.int .u32) y2), (13, eL (AV.int .u32) den)]) (stL S rg [(4, .arr 3 [.agg [.bool false, .nil, .nil]], g5)])
    refine qZ (rZ (mvZ (eL (AV.int .u32) x1) rfl (mvZ (eL (AV.int .u32) y2) rfl (wZ rg (o_call (us := [eL (AV.int .u32) x1, eL (AV.int .u32) y2]) rfl (vl' vr (vl' vr (vn))) (ref01_Sub_ctr h fun r9 r10 h => (mvZ (.tuple [eL (AV.int .u32) r9, .int .i64 r10]) rfl (wZ rg (o_extract (v := eL (AV.int .u32) r9) rfl rfl rfl (wZ rg (o_extract (v := .int .i64 r10) rfl rfl rfl (asZ (eL (AV.int .u32) r9) rfl ?_))))))))))))
    refine asZ (.int .i64 r10) rfl (nZ (qZ (rZ (mvZ (.bool s) rfl (mvZ (eL (AV.int .u32) r9) rfl (mvZ (eL (AV.int .u32) den) rfl (wZ rg (o_call (us := [AV.bool s, eL (AV.int .u32) r9, eL (AV.int .u32) den]) rfl (vl' vr (vl' vr (vl' vr (vn)))) (ref02_From_ctr h fun r11 r12 h => (mvZ (.tuple [eRat r11, .int .i64 r12]) rfl (wZ rg (o_extract (v := eRat r11) rfl rfl rfl ?_))))))))))))
    refine wZ rg (o_extract (v := .int .i64 r12) rfl rfl rfl (wZ rg (o_alloc zav27 ok27 (kk := 3) rfl (fun g6 => (wZ rg (o_storeB (atL (k := 18) rfl) sz27 (by decide) rfl (w := eRat r11) rfl rfl rfl (v := eRat r11) rfl setL (asZ (.int .i64 r12) rfl (nZ (qZ (rZ (wZ rg (o_loadBA (atL (k := 18) rfl) sz27 (by decide) ag27 rfl rfl (v := eRat r11) rfl ?_))))))))))))
    refine wZ rg (o_storeB (atL (k := 4) rfl) sz27 (by decide) rfl (w := eRat r11) rfl rfl rfl (v := eRat r11) rfl setL (nZ ?_))
    refine Vc.ret' ?_
    refine res_cellA (atL (k := 4) rfl) sz27 (by decide) ag27 rfl rfl (v := eRat r11) rfl (res_nil ?_)
    show Gives _ (eRat r11) _
    exact gives_out hrg (VW.refl _) (hQ _ h)
  refine qZ (rZ (mvZ (eL (AV.int .u32) x) rfl (mvZ (eL (AV.int .u32) y1) rfl (wZ rg (o_call (us := [eL (AV.int .u32) x, eL (AV.int .u32) y1]) rfl (vl' vr (vl' vr (vn))) (ref01_Cmp_ctr h fun r13 h => (wZ rg (o_lss rfl rfl (nZ ?_)))))))))
  refine Vc.cond' rfl (fun hb1 => ?_) (fun hb1 => ?_)
  · replace h := h.1 hb1
    refine rZ ?_
    refine mvZ (.bool r3) rfl (mvZ (eL (AV.int .u32) y1) rfl (mvZ (eL (AV.int .u32) x) rfl (asZ (.bool r3) rfl (asZ (eL (AV.int .u32) y1) rfl (asZ (eL (AV.int .u32) x) rfl (nZ ?_))))))
    exact ⟨((r3, y1, x), g3), (canon (fc vr (fc vr (fc vr (fc vr (fc vr (fn)))))) (sc rfl (sn))), h⟩
  replace h := h.2 hb1
  refine Vc.skip' ?_
  exact ⟨((r, x, y1), g3), (canon (fc vr (fc vr (fc vr (fc vr (fc vr (fn)))))) (sc rfl (sn))), h⟩
end Go.Proofs.Ytonbnfgknijpoaa
