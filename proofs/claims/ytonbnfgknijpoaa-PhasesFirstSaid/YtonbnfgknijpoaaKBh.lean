/- Walks of functions. Conditions: none. -/
import Derived.Test.YtonbnfgknijpoaaWB
import Derived.Test.YtonbnfgknijpoaaGgTy
import Derived.Test.YtonbnfgknijpoaaKB
import Derived.Test.YtonbnfgknijpoaaKBd
namespace Go.Proofs.Ytonbnfgknijpoaa
open Go.Gg
set_option maxRecDepth 100000
theorem ref02_Neg_ctr {a : GRat} {Q : GRat → Prop} {S : St} {R : AV → St → Prop} (h : ref02_Neg_W a Q) (hQ : ∀ r1, Q r1 → R (eRat r1) S) :
    Ctr Try.prog 146 [eRat a] S R := by
  unfold ref02_Neg_W at h
  refine enterT Try.func146 rfl Try.ntmps146 Try.results146 (by kernel_rfl) (fun rg hrg => ?_)
  refine qZ (rZ (wZ rg (o_box (v := eRat a) rfl rfl (kk := 3) rfl (by decide) (fun g1 => (wZ rg (o_alloc zav27 ok27 (kk := 3) rfl (fun g2 => (nZ (qZ (rZ (wZ rg (o_loadBA (atL (k := 1) rfl) sz27 (by decide) ag27 rfl rfl (v := eRat a) rfl (wZ rg (o_call (us := [eRat a]) rfl (vl' vr (vn)) (ref02_Parts_ctr h fun r r1 r2 h => (mvZ (.tuple [.bool r, eL (AV.int .u32) r1, eL (AV.int .u32) r2]) rfl ?_))))))))))))))))
  refine wZ rg (o_extract (v := .bool r) rfl rfl rfl (wZ rg (o_extract (v := eL (AV.int .u32) r1) rfl rfl rfl (wZ rg (o_extract (v := eL (AV.int .u32) r2) rfl rfl rfl (asZ (.bool r) rfl (asZ (eL (AV.int .u32) r1) rfl (asZ (eL (AV.int .u32) r2) rfl (nZ (qZ (rZ (mvZ (.bool r) rfl (wZ rg (o_not rfl (mvZ (eL (AV.int .u32) r1) rfl (mvZ (eL (AV.int .u32) r2) rfl ?_))))))))))))))))
  refine wZ rg (o_call (us := [AV.bool (!r), eL (AV.int .u32) r1, eL (AV.int .u32) r2]) rfl (vl' vr (vl' vr (vl' vr (vn)))) (ref02_From_ctr h fun r3 r4 h => (mvZ (.tuple [eRat r3, .int .i64 r4]) rfl (wZ rg (o_extract (v := eRat r3) rfl rfl rfl (wZ rg (o_extract (v := .int .i64 r4) rfl rfl rfl (wZ rg (o_alloc zav27 ok27 (kk := 3) rfl (fun g3 => ?_))))))))))
  refine wZ rg (o_storeB (atL (k := 6) rfl) sz27 (by decide) rfl (w := eRat r3) rfl rfl rfl (v := eRat r3) rfl setL (asZ (.int .i64 r4) rfl (nZ (qZ (rZ (wZ rg (o_loadBA (atL (k := 6) rfl) sz27 (by decide) ag27 rfl rfl (v := eRat r3) rfl (wZ rg (o_storeB (atL (k := 2) rfl) sz27 (by decide) rfl (w := eRat r3) rfl rfl rfl (v := eRat r3) rfl setL (nZ ?_))))))))))
  refine Vc.ret' ?_
  refine res_cellA (atL (k := 2) rfl) sz27 (by decide) ag27 rfl rfl (v := eRat r3) rfl (res_nil ?_)
  show Gives _ (eRat r3) _
  exact gives_out hrg (VW.refl _) (hQ _ h)
theorem ref02_Sub_ctr {a : GRat} {b : GRat} {Q : GRat → Prop} {S : St} {R : AV → St → Prop} (h : ref02_Sub_W a b Q) (hQ : ∀ r1, Q r1 → R (eRat r1) S) :
    Ctr Try.prog 87 [eRat a, eRat b] S R := by
  unfold ref02_Sub_W at h
  refine enterT Try.func87 rfl Try.ntmps87 Try.results87 (by kernel_rfl) (fun rg hrg => ?_)
  refine qZ (rZ (wZ rg (o_box (v := eRat a) rfl rfl (kk := 3) rfl (by decide) (fun g1 => (wZ rg (o_box (v := eRat b) rfl rfl (kk := 3) rfl (by decide) (fun g2 => (wZ rg (o_alloc zav27 ok27 (kk := 3) rfl (fun g3 => (nZ (qZ ?_))))))))))))
  obtain ⟨r, hc, h⟩ := h
  obtain ⟨r1, hc1, h⟩ := h
  refine Vc.drawn' mixed rg (usOf [(2, pc (eRat r)), (3, pc (eRat r1))]) (by kernel_rfl) ?_
  refine dL (E := ([(rg, 2)], [])) rfl rfl (by simp) (cfn) (o_loadBA (atL (k := 2) rfl) sz27 (by decide) ag27 rfl rfl (v := eRat a) rfl (dL (E := ([(rg, 3)], [])) rfl rfl (by simp) (cfa (by simp [apartE]) (cfn)) (o_loadBA (atL (k := 3) rfl) sz27 (by decide) ag27 rfl rfl (v := eRat b) rfl ?_)))
  refine dC (vs := [eRat b]) rfl (vl' vr (vn)) (fun _ => ref02_Neg_ctr hc (fun _ hr => ⟨by rw [hr], rfl⟩)) rfl ?_
  refine dC (vs := [eRat a, eRat r]) rfl (vl' vr (vl' vr (vn))) (fun _ => ref02_Add_ctr hc1 (fun _ hr => ⟨by rw [hr], rfl⟩)) rfl ?_
  refine dL (E := ([], [(rg, 4)])) rfl rfl (by simp) (cfo (by kernel_rfl) (cfo (by kernel_rfl) (cfn))) (o_storeB (atL (k := 4) rfl) sz27 (by decide) rfl (w := eRat r1) rfl rfl rfl (v := eRat r1) rfl setL (dN ?_))
  refine Vc.ret' ?_
  refine res_cellA (atL (k := 4) rfl) sz27 (by decide) ag27 rfl rfl (v := eRat r1) rfl (res_nil ?_)
  show Gives _ (eRat r1) _
  exact gives_out hrg (VW.refl _) (hQ _ h)
end Go.Proofs.Ytonbnfgknijpoaa
