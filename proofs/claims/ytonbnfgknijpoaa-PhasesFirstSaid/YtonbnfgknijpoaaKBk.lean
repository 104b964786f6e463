/- Walks of functions. Conditions: none. -/
import Derived.Test.YtonbnfgknijpoaaWB
import Derived.Test.YtonbnfgknijpoaaGgTy
import Derived.Test.YtonbnfgknijpoaaKA
import Derived.Test.YtonbnfgknijpoaaKB
namespace Go.Proofs.Ytonbnfgknijpoaa
open Go.Gg
set_option maxRecDepth 100000
theorem rational_Prob_ctr {a : GRat} {Q : Bool → Prop} {S : St} {R : AV → St → Prop} (h : rational_Prob_W a Q) (hQ : ∀ r1, Q r1 → R (AV.bool r1) S) :
    Ctr Try.prog 35 [eRat a] S R := by
  unfold rational_Prob_W at h
  refine enterT Try.func35 rfl Try.ntmps35 Try.results35 (by kernel_rfl) (fun rg hrg => ?_)
  refine qZ (rZ (wZ rg (o_box (v := eRat a) rfl rfl (kk := 3) rfl (by decide) (fun g1 => (asZ (.bool false) rfl (nZ (qZ (rZ (wZ rg (o_loadBA (atL (k := 1) rfl) sz27 (by decide) ag27 rfl rfl (v := eRat a) rfl (wZ rg (o_call (us := [eRat a]) rfl (vl' vr (vn)) (rational_Valid_ctr h fun r h => (mvZ (.bool r) rfl ?_))))))))))))))
  refine Wl.guard rfl rfl (fun hb => ?_) (fun hb => ?_)
  · replace h := h.1 hb
    refine wZ rg (o_faP td27 rfl rfl (by rw [sz4]; decide) rfl ?_)
    refine Wl.guardT rfl rfl hb ?_
    refine wZ rg (o_loadB1 (atL (k := 1) rfl) sz4 ag4 rfl rfl (v := .bool a.Neg) rfl ?_)
    refine Wl.guardT rfl rfl hb ?_
    refine wZ rg (o_not rfl (wZ rg (o_pickT rfl hb (v := .bool (!a.Neg)) rfl (mvZ (.bool (!a.Neg)) rfl ?_))))
    refine Wl.guard rfl rfl (fun hb1 => ?_) (fun hb1 => ?_)
    · replace h := h.1 hb1
      refine wZ rg (o_faP td27 rfl rfl (by rw [sz25]; decide) rfl ?_)
      refine Wl.guardT rfl rfl hb1 ?_
      refine wZ rg (o_loadB1 (atL (k := 1) rfl) sz25 ag25 rfl rfl (v := eL (AV.int .u32) a.Num) rfl ?_)
      refine Wl.guardT rfl rfl hb1 ?_
      refine wZ rg (o_faP td27 rfl rfl (by rw [sz25]; decide) rfl ?_)
      refine Wl.guardT rfl rfl hb1 ?_
      refine wZ rg (o_loadB1 (atL (k := 1) rfl) sz25 ag25 rfl rfl (v := eL (AV.int .u32) a.Den) rfl ?_)
      refine Wl.guardT rfl rfl hb1 ?_
      refine wZ rg (o_call (us := [eL (AV.int .u32) a.Num, eL (AV.int .u32) a.Den]) rfl (vl' vr (vl' vr (vn))) (natural_Cmp_ctr h fun r1 h => ?_))
      refine Wl.guardT rfl rfl hb1 ?_
      refine wZ rg (o_leq rfl rfl (wZ rg (o_pickT rfl hb1 (v := .bool (decide (r1 ≤ 0))) rfl (asZ (.bool (decide (r1 ≤ 0))) rfl (nZ ?_)))))
      refine Vc.ret' ?_
      refine res_tmp (v := .bool (decide (r1 ≤ 0))) rfl (res_nil ?_)
      show Gives _ (.bool (decide (r1 ≤ 0))) _
      exact gives_out hrg (VW.refl _) (hQ _ h)
    replace h := h.2 hb1
    refine Wl.guardF rfl rfl hb1 rfl ?_
    refine Wl.guardF rfl rfl hb1 rfl ?_
    refine Wl.guardF rfl rfl hb1 rfl ?_
    refine Wl.guardF rfl rfl hb1 rfl ?_
    refine Wl.guardF rfl rfl hb1 rfl ?_
    refine wZ rg (o_pickF rfl hb1 (v := .bool false) rfl (asZ (.bool false) rfl (nZ ?_)))
    refine Vc.ret' ?_
    refine res_tmp (v := .bool false) rfl (res_nil ?_)
    show Gives _ (.bool false) _
    exact gives_out hrg (VW.refl _) (hQ _ h)
  replace h := h.2 hb
  refine Wl.guardF rfl rfl hb rfl ?_
  refine Wl.guardF rfl rfl hb rfl ?_
  refine wZ rg (o_pickF rfl hb (v := .bool false) rfl (mvZ (.bool false) rfl ?_))
  refine Wl.guardF rfl rfl rfl rfl ?_
  refine Wl.guardF rfl rfl rfl rfl ?_
  refine Wl.guardF rfl rfl rfl rfl ?_
  refine Wl.guardF rfl rfl rfl rfl ?_
  refine Wl.guardF rfl rfl rfl rfl ?_
  refine Wl.guardF rfl rfl rfl rfl ?_
  refine wZ rg (o_pickF rfl rfl (v := .bool false) rfl (asZ (.bool false) rfl (nZ ?_)))
  refine Vc.ret' ?_
  refine res_tmp (v := .bool false) rfl (res_nil ?_)
  show Gives _ (.bool false) _
  exact gives_out hrg (VW.refl _) (hQ _ h)
end Go.Proofs.Ytonbnfgknijpoaa
