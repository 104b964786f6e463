/- Walks of functions. Conditions: none. -/
import Derived.Test.YtonbnfgknijpoaaWB
import Derived.Test.YtonbnfgknijpoaaGgTy
import Derived.Test.YtonbnfgknijpoaaKBd
namespace Go.Proofs.Ytonbnfgknijpoaa
open Go.Gg
set_option maxRecDepth 100000
theorem ref02_Sign_ctr {a : GRat} {Q : Int → Prop} {S : St} {R : AV → St → Prop} (h : ref02_Sign_W a Q) (hQ : ∀ r1, Q r1 → R (AV.int .i64 r1) S) :
    Ctr Try.prog 71 [eRat a] S R := by
  unfold ref02_Sign_W at h
  refine enterT Try.func71 rfl Try.ntmps71 Try.results71 (by kernel_rfl) (fun rg hrg => ?_)
  refine qZ (rZ (wZ rg (o_box (v := eRat a) rfl rfl (kk := 3) rfl (by decide) (fun g1 => (asZ (.int .i64 0) rfl (nZ (qZ (rZ (wZ rg (o_loadBA (atL (k := 1) rfl) sz27 (by decide) ag27 rfl rfl (v := eRat a) rfl (wZ rg (o_call (us := [eRat a]) rfl (vl' vr (vn)) (ref02_Parts_ctr h fun r r1 r2 h => (mvZ (.tuple [.bool r, eL (AV.int .u32) r1, eL (AV.int .u32) r2]) rfl ?_))))))))))))))
  refine wZ rg (o_extract (v := .bool r) rfl rfl rfl (wZ rg (o_extract (v := eL (AV.int .u32) r1) rfl rfl rfl (wZ rg (o_extract (v := eL (AV.int .u32) r2) rfl rfl rfl (asZ (.bool r) rfl (asZ (eL (AV.int .u32) r1) rfl (asZ (eL (AV.int .u32) r2) rfl (nZ (qZ (qZ (rZ (mvZ (eL (AV.int .u32) r1) rfl (wZ rg (o_len td25 rfl (wZ rg (o_eql rfl rfl (nZ ?_))))))))))))))))))
  refine Vc.cond' rfl (fun hb => ?_) (fun hb => ?_)
  · replace h := h.1 hb
    refine qZ (rZ (asZ (.int .i64 0) rfl (nZ ?_)))
    refine Vc.ret' ?_
    refine res_tmp (v := .int .i64 0) rfl (res_nil ?_)
    show Gives _ (.int .i64 0) _
    exact gives_out hrg (VW.refl _) (hQ _ h)
  replace h := h.2 hb
  refine Vc.skip' ?_
  refine qZ (qZ (rZ (mvZ (.bool r) rfl (nZ ?_))))
  refine Vc.cond' rfl (fun hb1 => ?_) (fun hb1 => ?_)
  · replace h := h.1 hb1
    refine qZ (rZ (asZ (.int .i64 (-1)) rfl (nZ ?_)))
    refine Vc.ret' ?_
    refine res_tmp (v := .int .i64 (-1)) rfl (res_nil ?_)
    show Gives _ (.int .i64 (-1)) _
    exact gives_out hrg (VW.refl _) (hQ _ h)
  replace h := h.2 hb1
  refine Vc.skip' ?_
  refine qZ (rZ (asZ (.int .i64 1) rfl (nZ ?_)))
  refine Vc.ret' ?_
  refine res_tmp (v := .int .i64 1) rfl (res_nil ?_)
  show Gives _ (.int .i64 1) _
  exact gives_out hrg (VW.refl _) (hQ _ h)
end Go.Proofs.Ytonbnfgknijpoaa
