/- Walks of functions. Conditions: none. -/
import Derived.Test.YtiamkdpljeemkaaWa
import Derived.Test.YtiamkdpljeemkaaGgTy
import Derived.Test.YtiamkdpljeemkaaK1
import Derived.Test.YtiamkdpljeemkaaK3
import Derived.Test.YtiamkdpljeemkaaK6
/- Walks of functions. Conditions: none. -/
namespace Go.Proofs.Ytiamkdpljeemkaa
open Go.Gg
set_option maxRecDepth 100000
theorem law15_DiagramEqual_ctr {f : GFormula} {g1 : GFormula} {o : List Int} {Q : Bool → Prop} {S : St} {R : AV → St → Prop} (h : law15_DiagramEqual_W f g1 o Q) (hQ : ∀ r1, Q r1 → R (AV.bool r1) S) :
    Ctr Try.prog 4 [eFormula f, eFormula g1, eL (AV.int .i64) o] S R := by
  unfold law15_DiagramEqual_W at h
  refine enterT Try.func4 rfl Try.ntmps4 Try.results4 (by kernel_rfl) (fun rg hrg => ?_)
  refine qZ (rZ (wZ rg (o_box (v := eFormula f) rfl rfl (kk := 3) rfl (by decide) (fun g2 => (wZ rg (o_box (v := eFormula g1) rfl rfl (kk := 3) rfl (by decide) (fun g3 => (asZ (.bool false) rfl (nZ (qZ ?_))))))))))
  obtain ⟨J, h, hJ⟩ := h
  refine Vc.join' (σ := ((Bool) × (Nat × Nat))) (fun y => J y.1) (fun y => envOf [(2, eL (AV.int .i64) o), (3, .ptr rg 3 y.2.1 0 0), (4, .ptr rg 4 y.2.2 0 0), (27, .bool y.1)]) (fun y => stL S rg [(3, .arr 3 [eFormula f], y.2.1), (4, .arr 3 [eFormula g1], y.2.2)]) (fun y h => ?_) ?_
  · obtain ⟨x, ⟨g4, g5⟩⟩ := y
    replace h := hJ x h
    show Vc _ _ _ _ (envOf [(2, eL (AV.int .i64) o), (3, .ptr rg 3 g4 0 0), (4, .ptr rg 4 g5 0 0), (27, .bool x)]) (stL S rg [(3, .arr 3 [eFormula f], g4), (4, .arr 3 [eFormula g1], g5)])
    refine Vc.cond' rfl (fun hb => ?_) (fun hb => ?_)
    · replace h := h.1 hb
      refine qZ (rZ (wZ rg (o_call (us := []) rfl (vn) (law15_awake_ctr h fun r h => (asZ (.bool r) rfl (nZ ?_))))))
      refine Vc.ret' ?_
      refine res_tmp (v := .bool r) rfl (res_nil ?_)
      show Gives _ (.bool r) _
      exact gives_out hrg (VW.refl _) (hQ _ h)
    replace h := h.2 hb
    refine Vc.skip' ?_
    refine qZ (rZ (wZ rg (o_loadBA (atL (k := 3) rfl) sz24 (by decide) ag24 rfl rfl (v := eFormula f) rfl (mvZ (eL (AV.int .i64) o) rfl (wZ rg (o_call (us := [eFormula f, eL (AV.int .i64) o]) rfl (vl' vr (vl' vr (vn))) (diagram_Build_ctr h fun r1 r2 h => (mvZ (.tuple [eDiagram r1, eErr 73 r2]) rfl (wZ rg (o_extract (v := eDiagram r1) rfl rfl rfl (wZ rg (o_extract (v := eErr 73 r2) rfl rfl rfl ?_))))))))))))
    refine wZ rg (o_alloc zav30 ok30 (kk := 3) rfl (fun g6 => (wZ rg (o_storeB (atL (k := 7) rfl) sz30 (by decide) rfl (w := eDiagram r1) rfl rfl rfl (v := eDiagram r1) rfl setL (asZ (eErr 73 r2) rfl (nZ (qZ (rZ (wZ rg (o_loadBA (atL (k := 4) rfl) sz24 (by decide) ag24 rfl rfl (v := eFormula g1) rfl (mvZ (eL (AV.int .i64) o) rfl ?_)))))))))))
    refine wZ rg (o_call (us := [eFormula g1, eL (AV.int .i64) o]) rfl (vl' vr (vl' vr (vn))) (diagram_Build_ctr h fun r3 r4 h => (mvZ (.tuple [eDiagram r3, eErr 73 r4]) rfl (wZ rg (o_extract (v := eDiagram r3) rfl rfl rfl (wZ rg (o_extract (v := eErr 73 r4) rfl rfl rfl (wZ rg (o_alloc zav30 ok30 (kk := 3) rfl (fun g7 => ?_))))))))))
    refine wZ rg (o_storeB (atL (k := 9) rfl) sz30 (by decide) rfl (w := eDiagram r3) rfl rfl rfl (v := eDiagram r3) rfl setL (asZ (eErr 73 r4) rfl (nZ (qZ (rZ (wZ rg (o_loadBA (atL (k := 3) rfl) sz24 (by decide) ag24 rfl rfl (v := eFormula f) rfl (wZ rg (o_loadBA (atL (k := 4) rfl) sz24 (by decide) ag24 rfl rfl (v := eFormula g1) rfl ?_)))))))))
    refine wZ rg (o_call (us := [eFormula f, eFormula g1]) rfl (vl' vr (vl' vr (vn))) (truth_Equal_ctr h fun r5 r6 r7 h => (mvZ (.tuple [.bool r5, .int .i64 r6, eErr 73 r7]) rfl (wZ rg (o_extract (v := .bool r5) rfl rfl rfl (wZ rg (o_extract (v := .int .i64 r6) rfl rfl rfl (wZ rg (o_extract (v := eErr 73 r7) rfl rfl rfl (asZ (.bool r5) rfl (asZ (.int .i64 r6) rfl (asZ (eErr 73 r7) rfl (nZ (qZ ?_))))))))))))))
    refine rZ ?_
    refine mvZ (eErr 73 r2) rfl (wZ rg (o_isnil td32 (E := 73) rfl rfl rfl (mvZ (.bool (Option.isNone r2)) rfl ?_)))
    refine Wl.guard rfl rfl (fun hb1 => ?_) (fun hb1 => ?_)
    · replace h := h.1 hb1
      refine mvZ (eErr 73 r4) rfl ?_
      refine Wl.guardT rfl rfl hb1 ?_
      refine wZ rg (o_isnil td32 (E := 73) rfl rfl rfl (wZ rg (o_pickT rfl hb1 (v := .bool (Option.isNone r4)) rfl (mvZ (.bool (Option.isNone r4)) rfl ?_))))
      refine Wl.guard rfl rfl (fun hb2 => ?_) (fun hb2 => ?_)
      · replace h := h.1 hb2
        refine mvZ (eErr 73 r7) rfl ?_
        refine Wl.guardT rfl rfl hb2 ?_
        refine wZ rg (o_isnil td32 (E := 73) rfl rfl rfl (wZ rg (o_pickT rfl hb2 (v := .bool (Option.isNone r7)) rfl (mvZ (.bool (Option.isNone r7)) rfl ?_))))
        refine Wl.guard rfl rfl (fun hb3 => ?_) (fun hb3 => ?_)
        · replace h := h.1 hb3
          refine mvZ (.bool r5) rfl ?_
          refine Wl.guardT rfl rfl hb3 ?_
          refine wZ rg (o_loadBA (atL (k := 7) rfl) sz30 (by decide) ag30 rfl rfl (v := eDiagram r1) rfl ?_)
          refine Wl.guardT rfl rfl hb3 ?_
          refine wZ rg (o_loadBA (atL (k := 9) rfl) sz30 (by decide) ag30 rfl rfl (v := eDiagram r3) rfl ?_)
          refine Wl.guardT rfl rfl hb3 ?_
          refine wZ rg (o_call (us := [eDiagram r1, eDiagram r3]) rfl (vl' vr (vl' vr (vn))) (base_Diagram_ctr h fun r8 h => ?_))
          refine Wl.guardT rfl rfl hb3 ?_
          refine wZ rg (o_eqlB td4 rfl rfl (wZ rg (o_pickT rfl hb3 (v := .bool (r5 == r8)) rfl (asZ (.bool (r5 == r8)) rfl (nZ ?_)))))
          refine Vc.ret' ?_
          refine res_tmp (v := .bool (r5 == r8)) rfl (res_nil ?_)
          show Gives _ (.bool (r5 == r8)) _
          exact gives_out hrg (VW.refl _) (hQ _ h)
        replace h := h.2 hb3
        refine Wl.guardF rfl rfl hb3 rfl ?_
        refine Wl.guardF rfl rfl hb3 rfl ?_
        refine Wl.guardF rfl rfl hb3 rfl ?_
        refine Wl.guardF rfl rfl hb3 rfl ?_
        refine wZ rg (o_pickF rfl hb3 (v := .bool false) rfl (asZ (.bool false) rfl (nZ ?_)))
        refine Vc.ret' ?_
        refine res_tmp (v := .bool false) rfl (res_nil ?_)
        show Gives _ (.bool false) _
        exact gives_out hrg (VW.refl _) (hQ _ h)
      replace h := h.2 hb2
      refine Wl.guardF rfl rfl hb2 rfl ?_
      refine wZ rg (o_pickF rfl hb2 (v := .bool false) rfl (mvZ (.bool false) rfl ?_))
      refine Wl.guardF rfl rfl rfl rfl ?_
      refine Wl.guardF rfl rfl rfl rfl ?_
      refine Wl.guardF rfl rfl rfl rfl ?_
      refine Wl.guardF rfl rfl rfl rfl ?_
      refine Wl.guardF rfl rfl rfl rfl ?_
      refine wZ rg (o_pickF rfl rfl (v := .bool false) rfl (asZ (.bool false) rfl (nZ ?_)))
      refine Vc.ret' ?_
      refine res_tmp (v := .bool false) rfl (res_nil ?_)
      show Gives _ (.bool false) _
      exact gives_out hrg (VW.refl _) (hQ _ h)
    replace h := h.2 hb1
    refine Wl.guardF rfl rfl hb1 rfl ?_
    refine wZ rg (o_pickF rfl hb1 (v := .bool false) rfl (mvZ (.bool false) rfl ?_))
    refine Wl.guardF rfl rfl rfl rfl ?_
    refine Wl.guardF rfl rfl rfl rfl ?_
    refine wZ rg (o_pickF rfl rfl (v := .bool false) rfl (mvZ (.bool false) rfl ?_))
    refine Wl.guardF rfl rfl rfl rfl ?_
    refine Wl.guardF rfl rfl rfl rfl ?_
    refine Wl.guardF rfl rfl rfl rfl ?_
    refine Wl.guardF rfl rfl rfl rfl ?_
    refine Wl.guardF rfl rfl rfl rfl ?_
    refine wZ rg (o_pickF rfl rfl (v := .bool false) rfl (asZ (.bool false) rfl (nZ ?_)))
    refine Vc.ret' ?_
    refine res_tmp (v := .bool false) rfl (res_nil ?_)
    show Gives _ (.bool false) _
    exact gives_out hrg (VW.refl _) (hQ _ h)
  refine rZ ?_
  refine wZ rg (o_call (us := []) rfl (vn) (law15_awake_ctr h fun r9 h => (wZ rg (o_not rfl (mvZ (.bool (!r9)) rfl ?_)))))
  refine Wl.guard rfl rfl (fun hb4 => ?_) (fun hb4 => ?_)
  · replace h := h.2 hb4
    refine wZ rg (o_loadBA (atL (k := 3) rfl) sz24 (by decide) ag24 rfl rfl (v := eFormula f) rfl ?_)
    refine Wl.guardT rfl rfl hb4 ?_
    refine mvZ (eL (AV.int .i64) o) rfl ?_
    refine Wl.guardT rfl rfl hb4 ?_
    refine wZ rg (o_call (us := [eFormula f, eL (AV.int .i64) o]) rfl (vl' vr (vl' vr (vn))) (law15_valid_ctr h fun r10 h => ?_))
    refine Wl.guardT rfl rfl hb4 ?_
    refine wZ rg (o_not rfl (wZ rg (o_pickF rfl hb4 (v := .bool (!r10)) rfl (mvZ (.bool (!r10)) rfl ?_))))
    refine Wl.guard rfl rfl (fun hb5 => ?_) (fun hb5 => ?_)
    · replace h := h.2 hb5
      refine wZ rg (o_loadBA (atL (k := 4) rfl) sz24 (by decide) ag24 rfl rfl (v := eFormula g1) rfl ?_)
      refine Wl.guardT rfl rfl hb5 ?_
      refine mvZ (eL (AV.int .i64) o) rfl ?_
      refine Wl.guardT rfl rfl hb5 ?_
      refine wZ rg (o_call (us := [eFormula g1, eL (AV.int .i64) o]) rfl (vl' vr (vl' vr (vn))) (law15_valid_ctr h fun r11 h => ?_))
      refine Wl.guardT rfl rfl hb5 ?_
      refine wZ rg (o_not rfl (wZ rg (o_pickF rfl hb5 (v := .bool (!r11)) rfl (nZ ?_))))
      exact ⟨((!r11), (g2, g3)), (canon (fc vr (fc vr (fc vr (fc vr (fn))))) (sc rfl (sc rfl (sn)))), h⟩
    replace h := h.1 hb5
    refine Wl.guardF rfl rfl hb5 rfl ?_
    refine Wl.guardF rfl rfl hb5 rfl ?_
    refine Wl.guardF rfl rfl hb5 rfl ?_
    refine wZ rg (o_pickT rfl hb5 (v := .bool true) rfl (nZ ?_))
    exact ⟨(true, (g2, g3)), (canon (fc vr (fc vr (fc vr (fc vr (fn))))) (sc rfl (sc rfl (sn)))), h⟩
  replace h := h.1 hb4
  refine Wl.guardF rfl rfl hb4 rfl ?_
  refine Wl.guardF rfl rfl hb4 rfl ?_
  refine Wl.guardF rfl rfl hb4 rfl ?_
  refine wZ rg (o_pickT rfl hb4 (v := .bool true) rfl (mvZ (.bool true) rfl ?_))
  refine Wl.guardF rfl rfl rfl rfl ?_
  refine Wl.guardF rfl rfl rfl rfl ?_
  refine Wl.guardF rfl rfl rfl rfl ?_
  refine Wl.guardF rfl rfl rfl rfl ?_
  refine wZ rg (o_pickT rfl rfl (v := .bool true) rfl (nZ ?_))
  exact ⟨(true, (g2, g3)), (canon (fc vr (fc vr (fc vr (fc vr (fn))))) (sc rfl (sc rfl (sn)))), h⟩
end Go.Proofs.Ytiamkdpljeemkaa
