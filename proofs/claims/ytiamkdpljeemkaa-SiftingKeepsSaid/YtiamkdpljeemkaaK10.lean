/- Walks of functions. Conditions: none. -/
import Derived.Test.YtiamkdpljeemkaaWa
import Derived.Test.YtiamkdpljeemkaaGgTy
import Derived.Test.YtiamkdpljeemkaaK4
/- Walks of functions. Conditions: none. -/
namespace Go.Proofs.Ytiamkdpljeemkaa
open Go.Gg
set_option maxRecDepth 100000
theorem law17_valid_ctr {d : GDiagram} {most : Int} {Q : Bool → Prop} {S : St} {R : AV → St → Prop} (h : law17_valid_W d most Q) (hQ : ∀ r1, Q r1 → R (AV.bool r1) S) :
    Ctr Try.prog 45 [eDiagram d, AV.int .i64 most] S R := by
  unfold law17_valid_W at h
  refine enterT Try.func45 rfl Try.ntmps45 Try.results45 (by kernel_rfl) (fun rg hrg => ?_)
  refine qZ (rZ (wZ rg (o_box (v := eDiagram d) rfl rfl (kk := 3) rfl (by decide) (fun g1 => (asZ (.bool false) rfl (nZ (qZ (rZ (wZ rg (o_loadBA (atL (k := 2) rfl) sz30 (by decide) ag30 rfl rfl (v := eDiagram d) rfl (mvZ (.int .i64 most) rfl (wZ rg (o_call (us := [eDiagram d, AV.int .i64 most]) rfl (vl' vr (vl' vr (vn))) (law17_large_ctr h fun r h => (wZ rg (o_not rfl (mvZ (.bool (!r)) rfl ?_)))))))))))))))))
  refine Wl.guard rfl rfl (fun hb => ?_) (fun hb => ?_)
  · replace h := h.1 hb
    refine wZ rg (o_loadBA (atL (k := 2) rfl) sz30 (by decide) ag30 rfl rfl (v := eDiagram d) rfl ?_)
    refine Wl.guardT rfl rfl hb ?_
    refine wZ rg (o_call (us := [eDiagram d]) rfl (vl' vr (vn)) (ref15_Check_ctr h fun r1 h => ?_))
    refine Wl.guardT rfl rfl hb ?_
    refine wZ rg (o_eql rfl rfl (wZ rg (o_pickT rfl hb (v := .bool (r1 == 0)) rfl (asZ (.bool (r1 == 0)) rfl (nZ ?_)))))
    refine Vc.ret' ?_
    refine res_tmp (v := .bool (r1 == 0)) rfl (res_nil ?_)
    show Gives _ (.bool (r1 == 0)) _
    exact gives_out hrg (VW.refl _) (hQ _ h)
  replace h := h.2 hb
  refine Wl.guardF rfl rfl hb rfl ?_
  refine Wl.guardF rfl rfl hb rfl ?_
  refine wZ rg (o_pickF rfl hb (v := .bool false) rfl (asZ (.bool false) rfl (nZ ?_)))
  refine Vc.ret' ?_
  refine res_tmp (v := .bool false) rfl (res_nil ?_)
  show Gives _ (.bool false) _
  exact gives_out hrg (VW.refl _) (hQ _ h)
end Go.Proofs.Ytiamkdpljeemkaa
