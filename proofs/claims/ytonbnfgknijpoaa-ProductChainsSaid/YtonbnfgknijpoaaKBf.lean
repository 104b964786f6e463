/- Walks of functions. Conditions: none. -/
import Derived.Test.YtonbnfgknijpoaaWB
import Derived.Test.YtonbnfgknijpoaaGgTy
import Derived.Test.YtonbnfgknijpoaaKA
import Derived.Test.YtonbnfgknijpoaaKB
import Derived.Test.YtonbnfgknijpoaaKBd
namespace Go.Proofs.Ytonbnfgknijpoaa
open Go.Gg
set_option maxRecDepth 100000
theorem ref02_Div_ctr {a : GRat} {b : GRat} {Q : GRat → Int → Prop} {S : St} {R : AV → St → Prop} (h : ref02_Div_W a b Q) (hQ : ∀ r1 r2, Q r1 r2 → R (.tuple [eRat r1, AV.int .i64 r2]) S) :
    Ctr Try.prog 92 [eRat a, eRat b] S R := by
  unfold ref02_Div_W at h
  refine enterT Try.func92 rfl Try.ntmps92 Try.results92 (by kernel_rfl) (fun rg hrg => ?_)
  refine qZ (rZ ?_)
  refine wZ rg (o_box (v := eRat a) rfl rfl (kk := 3) rfl (by decide) (fun g1 => ?_))
  refine wZ rg (o_box (v := eRat b) rfl rfl (kk := 3) rfl (by decide) (fun g2 => ?_))
  refine wZ rg (o_alloc zav27 ok27 (kk := 3) rfl (fun g3 => ?_))
  refine asZ (.int .i64 0) rfl ?_
  refine nZ (qZ (rZ ?_))
  refine wZ rg (o_loadBA (atL (k := 2) rfl) sz27 (by decide) ag27 rfl rfl (v := eRat a) rfl ?_)
  refine wZ rg (o_call (us := [eRat a]) rfl (vl' vr (vn)) (ref02_Parts_ctr h fun r r1 r2 h => ?_))
  refine mvZ (.tuple [.bool r, eL (AV.int .u32) r1, eL (AV.int .u32) r2]) rfl ?_
  refine wZ rg (o_extract (v := .bool r) rfl rfl rfl ?_)
  refine wZ rg (o_extract (v := eL (AV.int .u32) r1) rfl rfl rfl ?_)
  refine wZ rg (o_extract (v := eL (AV.int .u32) r2) rfl rfl rfl ?_)
  refine asZ (.bool r) rfl ?_
  refine asZ (eL (AV.int .u32) r1) rfl ?_
  refine asZ (eL (AV.int .u32) r2) rfl ?_
  refine nZ (qZ (rZ ?_))
  refine wZ rg (o_loadBA (atL (k := 3) rfl) sz27 (by decide) ag27 rfl rfl (v := eRat b) rfl ?_)
  refine wZ rg (o_call (us := [eRat b]) rfl (vl' vr (vn)) (ref02_Parts_ctr h fun r3 r4 r5 h => ?_))
  refine mvZ (.tuple [.bool r3, eL (AV.int .u32) r4, eL (AV.int .u32) r5]) rfl ?_
  refine wZ rg (o_extract (v := .bool r3) rfl rfl rfl ?_)
  refine wZ rg (o_extract (v := eL (AV.int .u32) r4) rfl rfl rfl ?_)
  refine wZ rg (o_extract (v := eL (AV.int .u32) r5) rfl rfl rfl ?_)
  refine asZ (.bool r3) rfl ?_
  refine asZ (eL (AV.int .u32) r4) rfl ?_
  refine asZ (eL (AV.int .u32) r5) rfl ?_
  refine nZ (qZ (rZ ?_))
  refine mvZ (.bool r) rfl ?_
  refine mvZ (.bool r3) rfl ?_
  refine wZ rg (o_neqB td4 rfl rfl ?_)
  refine mvZ (eL (AV.int .u32) r1) rfl ?_
  refine mvZ (eL (AV.int .u32) r5) rfl ?_
  refine wZ rg (o_call (us := [eL (AV.int .u32) r1, eL (AV.int .u32) r5]) rfl (vl' vr (vl' vr (vn))) (ref01_Mul_ctr h fun r6 h => ?_))
  refine mvZ (eL (AV.int .u32) r2) rfl ?_
  refine mvZ (eL (AV.int .u32) r4) rfl ?_
  refine wZ rg (o_call (us := [eL (AV.int .u32) r2, eL (AV.int .u32) r4]) rfl (vl' vr (vl' vr (vn))) (ref01_Mul_ctr h fun r7 h => ?_))
  refine wZ rg (o_call (us := [AV.bool (r != r3), eL (AV.int .u32) r6, eL (AV.int .u32) r7]) rfl (vl' vr (vl' vr (vl' vr (vn)))) (ref02_From_ctr h fun r8 r9 h => ?_))
  refine wZ rg (o_extract (v := eRat r8) rfl rfl rfl ?_)
  refine wZ rg (o_extract (v := .int .i64 r9) rfl rfl rfl ?_)
  refine wZ rg (o_storeB (atL (k := 4) rfl) sz27 (by decide) rfl (w := eRat r8) rfl rfl rfl (v := eRat r8) rfl setL ?_)
  refine asZ (.int .i64 r9) rfl ?_
  refine nZ ?_
  refine Vc.ret' ?_
  refine res_cellA (atL (k := 4) rfl) sz27 (by decide) ag27 rfl rfl (v := eRat r8) rfl ?_
  refine res_tmp (v := .int .i64 r9) rfl ?_
  refine res_nil ?_
  show Gives _ (.tuple [eRat r8, .int .i64 r9]) _
  exact gives_out hrg (VW.tupL (vl' vr (vl' vr (vn)))) (hQ _ _ h)
end Go.Proofs.Ytonbnfgknijpoaa
