/- Walks of functions. Conditions: none. -/
import Derived.Test.YtllegjdggcmgaaaWa
import Derived.Test.YtllegjdggcmgaaaGgTy
import Derived.Test.YtllegjdggcmgaaaK1
import Derived.Test.YtllegjdggcmgaaaK9
import Derived.Test.YtllegjdggcmgaaaK3
import Derived.Test.YtllegjdggcmgaaaK4
/- Walks of functions. Conditions: none. -/
namespace Go.Proofs.Ytllegjdggcmgaaa
open Go.Gg
set_option maxRecDepth 100000
theorem law15_DiagramCubes_ctr {d : GDiagram} {Q : Bool → Prop} {S : St} {R : AV → St → Prop} (h : law15_DiagramCubes_W d Q) (hQ : ∀ r1, Q r1 → R (AV.bool r1) S) :
    Ctr Try.prog 15 [eDiagram d] S R := by
  unfold law15_DiagramCubes_W at h
  refine enterT Try.func15 rfl Try.ntmps15 Try.results15 (by kernel_rfl) (fun rg hrg => ?_)
  refine qZ (rZ (wZ rg (o_box (v := eDiagram d) rfl rfl (kk := 3) rfl (by decide) (fun g1 => (asZ (.bool false) rfl (nZ (qZ ?_)))))))
  obtain ⟨J, h, hJ⟩ := h
  refine Vc.join' (σ := ((Bool) × (Nat))) (fun y => J y.1) (fun y => envOf [(1, .ptr rg 1 y.2 0 0), (14, .bool y.1)]) (fun y => stL S rg [(1, .arr 3 [eDiagram d], y.2)]) (fun y h => ?_) ?_
  · obtain ⟨x, g2⟩ := y
    replace h := hJ x h
    show Vc _ _ _ _ (envOf [(1, .ptr rg 1 g2 0 0), (14, .bool x)]) (stL S rg [(1, .arr 3 [eDiagram d], g2)])
    refine Vc.cond' rfl (fun hb => ?_) (fun hb => ?_)
    · replace h := h.1 hb
      refine qZ (rZ (wZ rg (o_call (us := []) rfl (vn) (law15_awake_ctr h fun r h => (asZ (.bool r) rfl (nZ ?_))))))
      refine Vc.ret' ?_
      refine res_tmp (v := .bool r) rfl (res_nil ?_)
      show Gives _ (.bool r) _
      exact gives_out hrg (VW.refl _) (hQ _ h)
    replace h := h.2 hb
    refine Vc.skip' ?_
    refine qZ (rZ (wZ rg (o_loadBA (atL (k := 1) rfl) sz25 (by decide) ag25 rfl rfl (v := eDiagram d) rfl (wZ rg (o_call (us := [eDiagram d]) rfl (vl' vr (vn)) (diagram_Cubes_ctr h fun r1 r2 h => (mvZ (.tuple [eL eCube r1, eErr 83 r2]) rfl (wZ rg (o_extract (v := eL eCube r1) rfl rfl rfl (wZ rg (o_extract (v := eErr 83 r2) rfl rfl rfl (asZ (eL eCube r1) rfl (asZ (eErr 83 r2) rfl (nZ (qZ (rZ ?_))))))))))))))))
    refine wZ rg (o_loadBA (atL (k := 1) rfl) sz25 (by decide) ag25 rfl rfl (v := eDiagram d) rfl (wZ rg (o_call (us := [eDiagram d]) rfl (vl' vr (vn)) (ref15_Check_ctr h fun code h => (asZ (.int .i64 code) rfl (nZ (qZ (rZ (asZ .nil rfl (nZ ?_))))))))))
    obtain ⟨J, h, hJ⟩ := h
    refine Vc.join' (σ := (Int × (List GCube))) (fun y => J y) (fun y => envOf [(3, eL eCube r1), (4, eErr 83 r2), (5, .int .i64 y.1), (6, eL eCube y.2)]) (fun y => stL S rg []) (fun y h => ?_) ?_
    · obtain ⟨code1, want⟩ := y
      replace h := hJ (code1, want) h
      show Vc _ _ _ _ (envOf [(3, eL eCube r1), (4, eErr 83 r2), (5, .int .i64 code1), (6, eL eCube want)]) (stL S rg [])
      refine qZ (qZ (rZ (mvZ (.int .i64 code1) rfl (wZ rg (o_neq rfl rfl (nZ ?_))))))
      refine Vc.cond' rfl (fun hb1 => ?_) (fun hb1 => ?_)
      · replace h := h.1 hb1
        refine qZ (rZ (mvZ (eL eCube r1) rfl (wZ rg (o_len td84 rfl (wZ rg (o_eql rfl rfl (mvZ (.bool ((r1.length : Int) == 0)) rfl ?_)))))))
        refine Wl.guard rfl rfl (fun hb2 => ?_) (fun hb2 => ?_)
        · replace h := h.1 hb2
          refine mvZ (eErr 83 r2) rfl ?_
          refine Wl.guardT rfl rfl hb2 ?_
          refine wZ rg (o_call (us := [eErr 83 r2]) rfl (vl' vr (vn)) (base_Num_ctr h fun r3 h => ?_))
          refine Wl.guardT rfl rfl hb2 ?_
          refine mvZ (.int .i64 code1) rfl ?_
          refine Wl.guardT rfl rfl hb2 ?_
          refine wZ rg (o_eql rfl rfl (wZ rg (o_pickT rfl hb2 (v := .bool (r3 == code1)) rfl (asZ (.bool (r3 == code1)) rfl (nZ ?_)))))
          refine Vc.ret' ?_
          refine res_tmp (v := .bool (r3 == code1)) rfl (res_nil ?_)
          show Gives _ (.bool (r3 == code1)) _
          exact gives_out hrg (VW.refl _) (hQ _ h)
        replace h := h.2 hb2
        refine Wl.guardF rfl rfl hb2 rfl ?_
        refine Wl.guardF rfl rfl hb2 rfl ?_
        refine Wl.guardF rfl rfl hb2 rfl ?_
        refine wZ rg (o_pickF rfl hb2 (v := .bool false) rfl (asZ (.bool false) rfl (nZ ?_)))
        refine Vc.ret' ?_
        refine res_tmp (v := .bool false) rfl (res_nil ?_)
        show Gives _ (.bool false) _
        exact gives_out hrg (VW.refl _) (hQ _ h)
      replace h := h.2 hb1
      refine Vc.skip' ?_
      refine qZ (qZ (rZ (mvZ (eErr 83 r2) rfl (wZ rg (o_isnon td29 (E := 83) rfl rfl rfl (mvZ (.bool (Option.isSome r2)) rfl ?_))))))
      refine Wl.guard rfl rfl (fun hb3 => ?_) (fun hb3 => ?_)
      · replace h := h.2 hb3
        refine mvZ (eL eCube r1) rfl ?_
        refine Wl.guardT rfl rfl hb3 ?_
        refine mvZ (eL eCube want) rfl ?_
        refine Wl.guardT rfl rfl hb3 ?_
        refine wZ rg (o_call (us := [eL eCube r1, eL eCube want]) rfl (vl' vr (vl' vr (vn))) (base_Cubes_ctr h fun r4 h => ?_))
        refine Wl.guardT rfl rfl hb3 ?_
        refine wZ rg (o_not rfl (wZ rg (o_pickF rfl hb3 (v := .bool (!r4)) rfl (nZ ?_))))
        refine Vc.cond' rfl (fun hb4 => ?_) (fun hb4 => ?_)
        · replace h := h.1 hb4
          refine qZ (rZ (asZ (.bool false) rfl (nZ ?_)))
          refine Vc.ret' ?_
          refine res_tmp (v := .bool false) rfl (res_nil ?_)
          show Gives _ (.bool false) _
          exact gives_out hrg (VW.refl _) (hQ _ h)
        replace h := h.2 hb4
        refine Vc.skip' ?_
        refine qZ (qZ (rZ (mvZ (eL eCube r1) rfl (wZ rg (o_len td84 rfl (wZ rg (o_gtr rfl rfl (nZ ?_))))))))
        refine Vc.cond' rfl (fun hb5 => ?_) (fun hb5 => ?_)
        · replace h := h.1 hb5
          refine qZ (rZ (asZ (.bool true) rfl (nZ ?_)))
          refine Vc.ret' ?_
          refine res_tmp (v := .bool true) rfl (res_nil ?_)
          show Gives _ (.bool true) _
          exact gives_out hrg (VW.refl _) (hQ _ h)
        replace h := h.2 hb5
        refine Vc.skip' ?_
        refine qZ (rZ (mvZ (eL eCube r1) rfl (wZ rg (o_call (us := [eL eCube r1]) rfl (vl' vr (vn)) (cube_Disjoint_ctr h fun r5 r6 h => (mvZ (.tuple [.bool r5, eErr 83 r6]) rfl (wZ rg (o_extract (v := .bool r5) rfl rfl rfl (wZ rg (o_extract (v := eErr 83 r6) rfl rfl rfl (asZ (.bool r5) rfl (asZ (eErr 83 r6) rfl (nZ (qZ (rZ (mvZ (eErr 83 r6) rfl (wZ rg (o_isnil td29 (E := 83) rfl rfl rfl ?_))))))))))))))))))
        refine mvZ (.bool (Option.isNone r6)) rfl ?_
        refine Wl.guard rfl rfl (fun hb6 => ?_) (fun hb6 => ?_)
        · replace h := h.1 hb6
          refine mvZ (.bool r5) rfl (wZ rg (o_pickT rfl hb6 (v := .bool r5) rfl (asZ (.bool r5) rfl (nZ ?_))))
          refine Vc.ret' ?_
          refine res_tmp (v := .bool r5) rfl (res_nil ?_)
          show Gives _ (.bool r5) _
          exact gives_out hrg (VW.refl _) (hQ _ h)
        replace h := h.2 hb6
        refine wZ rg (o_pickF rfl hb6 (v := .bool false) rfl (asZ (.bool false) rfl (nZ ?_)))
        refine Vc.ret' ?_
        refine res_tmp (v := .bool false) rfl (res_nil ?_)
        show Gives _ (.bool false) _
        exact gives_out hrg (VW.refl _) (hQ _ h)
      replace h := h.1 hb3
      refine Wl.guardF rfl rfl hb3 rfl ?_
      refine Wl.guardF rfl rfl hb3 rfl ?_
      refine Wl.guardF rfl rfl hb3 rfl ?_
      refine wZ rg (o_pickT rfl hb3 (v := .bool true) rfl (nZ ?_))
      refine Vc.cond' rfl (fun _ => ?_) (fun hb => Bool.noConfusion hb)
      refine qZ (rZ (asZ (.bool false) rfl (nZ ?_)))
      refine Vc.ret' ?_
      refine res_tmp (v := .bool false) rfl (res_nil ?_)
      show Gives _ (.bool false) _
      exact gives_out hrg (VW.refl _) (hQ _ h)
    refine qZ (rZ (mvZ (.int .i64 code) rfl (wZ rg (o_eql rfl rfl (nZ ?_)))))
    refine Vc.cond' rfl (fun hb7 => ?_) (fun hb7 => ?_)
    · replace h := h.1 hb7
      refine rZ ?_
      refine wZ rg (o_loadBA (atL (k := 1) rfl) sz25 (by decide) ag25 rfl rfl (v := eDiagram d) rfl (wZ rg (o_call (us := [eDiagram d]) rfl (vl' vr (vn)) (ref15_Cubes_ctr h fun r7 r8 h => (mvZ (.tuple [eL eCube r7, .int .i64 r8]) rfl (wZ rg (o_extract (v := eL eCube r7) rfl rfl rfl (wZ rg (o_extract (v := .int .i64 r8) rfl rfl rfl (asZ (eL eCube r7) rfl (asZ (.int .i64 r8) rfl (nZ ?_))))))))))))
      exact ⟨(r8, r7), (canon (fc vr (fc vr (fc vr (fc vr (fn))))) (sn)), h⟩
    replace h := h.2 hb7
    refine Vc.skip' ?_
    exact ⟨(code, []), (canon (fc vr (fc vr (fc vr (fc (VW.nilL) (fn))))) (sn)), h⟩
  refine rZ ?_
  refine wZ rg (o_call (us := []) rfl (vn) (law15_awake_ctr h fun r9 h => (wZ rg (o_not rfl (mvZ (.bool (!r9)) rfl ?_)))))
  refine Wl.guard rfl rfl (fun hb8 => ?_) (fun hb8 => ?_)
  · replace h := h.2 hb8
    refine wZ rg (o_loadBA (atL (k := 1) rfl) sz25 (by decide) ag25 rfl rfl (v := eDiagram d) rfl ?_)
    refine Wl.guardT rfl rfl hb8 ?_
    refine wZ rg (o_call (us := [eDiagram d]) rfl (vl' vr (vn)) (law15_large_ctr h fun r10 h => (wZ rg (o_pickF rfl hb8 (v := .bool r10) rfl (nZ ?_)))))
    exact ⟨(r10, g1), (canon (fc vr (fc vr (fn))) (sc rfl (sn))), h⟩
  replace h := h.1 hb8
  refine Wl.guardF rfl rfl hb8 rfl ?_
  refine wZ rg (o_pickT rfl hb8 (v := .bool true) rfl (nZ ?_))
  exact ⟨(true, g1), (canon (fc vr (fc vr (fn))) (sc rfl (sn))), h⟩
end Go.Proofs.Ytllegjdggcmgaaa
