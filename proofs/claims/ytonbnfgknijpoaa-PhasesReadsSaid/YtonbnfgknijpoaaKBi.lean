/- Walks of functions. Conditions: none. -/
import Derived.Test.YtonbnfgknijpoaaWB
import Derived.Test.YtonbnfgknijpoaaGgTy
import Derived.Test.YtonbnfgknijpoaaKA
import Derived.Test.YtonbnfgknijpoaaKB
import Derived.Test.YtonbnfgknijpoaaKBd
namespace Go.Proofs.Ytonbnfgknijpoaa
open Go.Gg
set_option maxRecDepth 100000
theorem ref02_Mul_ctr {a : GRat} {b : GRat} {Q : GRat → Prop} {S : St} {R : AV → St → Prop} (h : ref02_Mul_W a b Q) (hQ : ∀ r1, Q r1 → R (eRat r1) S) :
    Ctr Try.prog 88 [eRat a, eRat b] S R := by
  unfold ref02_Mul_W at h
  refine enterT Try.func88 rfl Try.ntmps88 Try.results88 (by kernel_rfl) (fun rg hrg => ?_)
  refine qZ (rZ (wZ rg (o_box (v := eRat a) rfl rfl (kk := 3) rfl (by decide) (fun g1 => (wZ rg (o_box (v := eRat b) rfl rfl (kk := 3) rfl (by decide) (fun g2 => (wZ rg (o_alloc zav27 ok27 (kk := 3) rfl (fun g3 => (nZ (qZ (rZ (wZ rg (o_loadBA (atL (k := 2) rfl) sz27 (by decide) ag27 rfl rfl (v := eRat a) rfl ?_)))))))))))))))
  refine wZ rg (o_call (us := [eRat a]) rfl (vl' vr (vn)) (ref02_Parts_ctr h fun r r1 r2 h => (mvZ (.tuple [.bool r, eL (AV.int .u32) r1, eL (AV.int .u32) r2]) rfl (wZ rg (o_extract (v := .bool r) rfl rfl rfl (wZ rg (o_extract (v := eL (AV.int .u32) r1) rfl rfl rfl (wZ rg (o_extract (v := eL (AV.int .u32) r2) rfl rfl rfl (asZ (.bool r) rfl (asZ (eL (AV.int .u32) r1) rfl ?_)))))))))))
  refine asZ (eL (AV.int .u32) r2) rfl (nZ (qZ (rZ (wZ rg (o_loadBA (atL (k := 3) rfl) sz27 (by decide) ag27 rfl rfl (v := eRat b) rfl (wZ rg (o_call (us := [eRat b]) rfl (vl' vr (vn)) (ref02_Parts_ctr h fun r3 r4 r5 h => (mvZ (.tuple [.bool r3, eL (AV.int .u32) r4, eL (AV.int .u32) r5]) rfl (wZ rg (o_extract (v := .bool r3) rfl rfl rfl (wZ rg (o_extract (v := eL (AV.int .u32) r4) rfl rfl rfl ?_)))))))))))))
  refine wZ rg (o_extract (v := eL (AV.int .u32) r5) rfl rfl rfl (asZ (.bool r3) rfl (asZ (eL (AV.int .u32) r4) rfl (asZ (eL (AV.int .u32) r5) rfl (nZ (qZ (rZ (mvZ (.bool r) rfl (mvZ (.bool r3) rfl (wZ rg (o_neqB td4 rfl rfl (mvZ (eL (AV.int .u32) r1) rfl (mvZ (eL (AV.int .u32) r4) rfl ?_)))))))))))))
  refine wZ rg (o_call (us := [eL (AV.int .u32) r1, eL (AV.int .u32) r4]) rfl (vl' vr (vl' vr (vn))) (ref01_Mul_ctr h fun r6 h => (mvZ (eL (AV.int .u32) r2) rfl (mvZ (eL (AV.int .u32) r5) rfl (wZ rg (o_call (us := [eL (AV.int .u32) r2, eL (AV.int .u32) r5]) rfl (vl' vr (vl' vr (vn))) (ref01_Mul_ctr h fun r7 h => ?_)))))))
  refine wZ rg (o_call (us := [AV.bool (r != r3), eL (AV.int .u32) r6, eL (AV.int .u32) r7]) rfl (vl' vr (vl' vr (vl' vr (vn)))) (ref02_From_ctr h fun r8 r9 h => (mvZ (.tuple [eRat r8, .int .i64 r9]) rfl (wZ rg (o_extract (v := eRat r8) rfl rfl rfl (wZ rg (o_extract (v := .int .i64 r9) rfl rfl rfl (wZ rg (o_alloc zav27 ok27 (kk := 3) rfl (fun g4 => ?_))))))))))
  refine wZ rg (o_storeB (atL (k := 11) rfl) sz27 (by decide) rfl (w := eRat r8) rfl rfl rfl (v := eRat r8) rfl setL (asZ (.int .i64 r9) rfl (nZ (qZ (rZ (wZ rg (o_loadBA (atL (k := 11) rfl) sz27 (by decide) ag27 rfl rfl (v := eRat r8) rfl (wZ rg (o_storeB (atL (k := 4) rfl) sz27 (by decide) rfl (w := eRat r8) rfl rfl rfl (v := eRat r8) rfl setL (nZ ?_))))))))))
  refine Vc.ret' ?_
  refine res_cellA (atL (k := 4) rfl) sz27 (by decide) ag27 rfl rfl (v := eRat r8) rfl (res_nil ?_)
  show Gives _ (eRat r8) _
  exact gives_out hrg (VW.refl _) (hQ _ h)
end Go.Proofs.Ytonbnfgknijpoaa
