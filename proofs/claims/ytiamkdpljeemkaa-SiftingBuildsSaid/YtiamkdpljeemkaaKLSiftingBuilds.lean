/- Walks of functions. Conditions: none. -/
import Derived.Test.YtiamkdpljeemkaaWa
import Derived.Test.YtiamkdpljeemkaaGgTy
import Derived.Test.YtiamkdpljeemkaaK1
import Derived.Test.YtiamkdpljeemkaaK4
/- Walks of functions. Conditions: none. -/
namespace Go.Proofs.Ytiamkdpljeemkaa
open Go.Gg
set_option maxRecDepth 100000
theorem law17_SiftingBuilds_ctr {f : GFormula} {a : List Int} {b : List Int} {Q : Bool → Prop} {S : St} {R : AV → St → Prop} (h : law17_SiftingBuilds_W f a b Q) (hQ : ∀ r1, Q r1 → R (AV.bool r1) S) :
    Ctr Try.prog 19 [eFormula f, eL (AV.int .i64) a, eL (AV.int .i64) b] S R := by
  unfold law17_SiftingBuilds_W at h
  refine enterT Try.func19 rfl Try.ntmps19 Try.results19 (by kernel_rfl) (fun rg hrg => ?_)
  refine qZ (rZ (wZ rg (o_box (v := eFormula f) rfl rfl (kk := 3) rfl (by decide) (fun g1 => (asZ (.bool false) rfl (nZ (qZ ?_)))))))
  obtain ⟨J, h, hJ⟩ := h
  refine Vc.join' (σ := ((Bool) × (Nat))) (fun y => J y.1) (fun y => envOf [(1, eL (AV.int .i64) a), (2, eL (AV.int .i64) b), (3, .ptr rg 3 y.2 0 0), (38, .bool y.1)]) (fun y => stL S rg [(3, .arr 3 [eFormula f], y.2)]) (fun y h => ?_) ?_
  · obtain ⟨x, g2⟩ := y
    replace h := hJ x h
    show Vc _ _ _ _ (envOf [(1, eL (AV.int .i64) a), (2, eL (AV.int .i64) b), (3, .ptr rg 3 g2 0 0), (38, .bool x)]) (stL S rg [(3, .arr 3 [eFormula f], g2)])
    refine Vc.cond' rfl (fun hb => ?_) (fun hb => ?_)
    · replace h := h.1 hb
      refine qZ (rZ (wZ rg (o_call (us := []) rfl (vn) (law17_awake_ctr h fun r h => (asZ (.bool r) rfl (nZ ?_))))))
      refine Vc.ret' ?_
      refine res_tmp (v := .bool r) rfl (res_nil ?_)
      show Gives _ (.bool r) _
      exact gives_out hrg (VW.refl _) (hQ _ h)
    replace h := h.2 hb
    refine Vc.skip' ?_
    refine qZ (rZ (wZ rg (o_loadBA (atL (k := 3) rfl) sz24 (by decide) ag24 rfl rfl (v := eFormula f) rfl (mvZ (eL (AV.int .i64) a) rfl (wZ rg (o_call (us := [eFormula f, eL (AV.int .i64) a]) rfl (vl' vr (vl' vr (vn))) (diagram_Build_ctr h fun r1 r2 h => (mvZ (.tuple [eDiagram r1, eErr 73 r2]) rfl (wZ rg (o_extract (v := eDiagram r1) rfl rfl rfl (wZ rg (o_extract (v := eErr 73 r2) rfl rfl rfl ?_))))))))))))
    refine wZ rg (o_alloc zav30 ok30 (kk := 3) rfl (fun g3 => (wZ rg (o_storeB (atL (k := 7) rfl) sz30 (by decide) rfl (w := eDiagram r1) rfl rfl rfl (v := eDiagram r1) rfl setL (asZ (eErr 73 r2) rfl (nZ (qZ (rZ (wZ rg (o_loadBA (atL (k := 3) rfl) sz24 (by decide) ag24 rfl rfl (v := eFormula f) rfl (mvZ (eL (AV.int .i64) b) rfl ?_)))))))))))
    refine wZ rg (o_call (us := [eFormula f, eL (AV.int .i64) b]) rfl (vl' vr (vl' vr (vn))) (diagram_Build_ctr h fun r3 r4 h => (mvZ (.tuple [eDiagram r3, eErr 73 r4]) rfl (wZ rg (o_extract (v := eDiagram r3) rfl rfl rfl (wZ rg (o_extract (v := eErr 73 r4) rfl rfl rfl (wZ rg (o_alloc zav30 ok30 (kk := 3) rfl (fun g4 => ?_))))))))))
    refine wZ rg (o_storeB (atL (k := 9) rfl) sz30 (by decide) rfl (w := eDiagram r3) rfl rfl rfl (v := eDiagram r3) rfl setL (asZ (eErr 73 r4) rfl (nZ (qZ (rZ (wZ rg (o_loadBA (atL (k := 7) rfl) sz30 (by decide) ag30 rfl rfl (v := eDiagram r1) rfl (mvZ (eL (AV.int .i64) b) rfl (wZ rg (o_call (us := [eDiagram r1, eL (AV.int .i64) b]) rfl (vl' vr (vl' vr (vn))) (sifting_Reorder_ctr h fun r5 r6 h => ?_)))))))))))
    refine mvZ (.tuple [eDiagram r5, eErr 73 r6]) rfl (wZ rg (o_extract (v := eDiagram r5) rfl rfl rfl (wZ rg (o_extract (v := eErr 73 r6) rfl rfl rfl (wZ rg (o_alloc zav30 ok30 (kk := 3) rfl (fun g5 => (wZ rg (o_storeB (atL (k := 11) rfl) sz30 (by decide) rfl (w := eDiagram r5) rfl rfl rfl (v := eDiagram r5) rfl setL (asZ (eErr 73 r6) rfl (nZ (qZ (rZ (mvZ (eErr 73 r2) rfl ?_))))))))))))))
    refine wZ rg (o_isnil td32 (E := 73) rfl rfl rfl (mvZ (.bool (Option.isNone r2)) rfl ?_))
    refine Wl.guard rfl rfl (fun hb1 => ?_) (fun hb1 => ?_)
    · replace h := h.1 hb1
      refine mvZ (eErr 73 r4) rfl ?_
      refine Wl.guardT rfl rfl hb1 ?_
      refine wZ rg (o_isnil td32 (E := 73) rfl rfl rfl (wZ rg (o_pickT rfl hb1 (v := .bool (Option.isNone r4)) rfl (mvZ (.bool (Option.isNone r4)) rfl ?_))))
      refine Wl.guard rfl rfl (fun hb2 => ?_) (fun hb2 => ?_)
      · replace h := h.1 hb2
        refine mvZ (eErr 73 r6) rfl ?_
        refine Wl.guardT rfl rfl hb2 ?_
        refine wZ rg (o_isnil td32 (E := 73) rfl rfl rfl (wZ rg (o_pickT rfl hb2 (v := .bool (Option.isNone r6)) rfl (mvZ (.bool (Option.isNone r6)) rfl ?_))))
        refine Wl.guard rfl rfl (fun hb3 => ?_) (fun hb3 => ?_)
        · replace h := h.1 hb3
          refine wZ rg (o_loadBA (atL (k := 9) rfl) sz30 (by decide) ag30 rfl rfl (v := eDiagram r3) rfl ?_)
          refine Wl.guardT rfl rfl hb3 ?_
          refine wZ rg (o_loadBA (atL (k := 11) rfl) sz30 (by decide) ag30 rfl rfl (v := eDiagram r5) rfl ?_)
          refine Wl.guardT rfl rfl hb3 ?_
          refine wZ rg (o_call (us := [eDiagram r3, eDiagram r5]) rfl (vl' vr (vl' vr (vn))) (base_Diagram_ctr h fun r7 h => (wZ rg (o_pickT rfl hb3 (v := .bool r7) rfl (asZ (.bool r7) rfl (nZ ?_))))))
          refine Vc.ret' ?_
          refine res_tmp (v := .bool r7) rfl (res_nil ?_)
          show Gives _ (.bool r7) _
          exact gives_out hrg (VW.refl _) (hQ _ h)
        replace h := h.2 hb3
        refine Wl.guardF rfl rfl hb3 rfl ?_
        refine Wl.guardF rfl rfl hb3 rfl ?_
        refine wZ rg (o_pickF rfl hb3 (v := .bool false) rfl (asZ (.bool false) rfl (nZ ?_)))
        refine Vc.ret' ?_
        refine res_tmp (v := .bool false) rfl (res_nil ?_)
        show Gives _ (.bool false) _
        exact gives_out hrg (VW.refl _) (hQ _ h)
      replace h := h.2 hb2
      refine Wl.guardF rfl rfl hb2 rfl ?_
      refine wZ rg (o_pickF rfl hb2 (v := .bool false) rfl (mvZ (.bool false) rfl ?_))
      refine Wl.guardF rfl rfl rfl rfl ?_
      refine Wl.guardF rfl rfl rfl rfl ?_
      refine Wl.guardF rfl rfl rfl rfl ?_
      refine wZ rg (o_pickF rfl rfl (v := .bool false) rfl (asZ (.bool false) rfl (nZ ?_)))
      refine Vc.ret' ?_
      refine res_tmp (v := .bool false) rfl (res_nil ?_)
      show Gives _ (.bool false) _
      exact gives_out hrg (VW.refl _) (hQ _ h)
    replace h := h.2 hb1
    refine Wl.guardF rfl rfl hb1 rfl ?_
    refine wZ rg (o_pickF rfl hb1 (v := .bool false) rfl (mvZ (.bool false) rfl ?_))
    refine Wl.guardF rfl rfl rfl rfl ?_
    refine Wl.guardF rfl rfl rfl rfl ?_
    refine wZ rg (o_pickF rfl rfl (v := .bool false) rfl (mvZ (.bool false) rfl ?_))
    refine Wl.guardF rfl rfl rfl rfl ?_
    refine Wl.guardF rfl rfl rfl rfl ?_
    refine Wl.guardF rfl rfl rfl rfl ?_
    refine wZ rg (o_pickF rfl rfl (v := .bool false) rfl (asZ (.bool false) rfl (nZ ?_)))
    refine Vc.ret' ?_
    refine res_tmp (v := .bool false) rfl (res_nil ?_)
    show Gives _ (.bool false) _
    exact gives_out hrg (VW.refl _) (hQ _ h)
  refine rZ ?_
  refine wZ rg (o_call (us := []) rfl (vn) (law17_awake_ctr h fun r8 h => (wZ rg (o_not rfl (mvZ (.bool (!r8)) rfl ?_)))))
  refine Wl.guard rfl rfl (fun hb4 => ?_) (fun hb4 => ?_)
  · replace h := h.2 hb4
    refine wZ rg (o_loadBA (atL (k := 3) rfl) sz24 (by decide) ag24 rfl rfl (v := eFormula f) rfl ?_)
    refine Wl.guardT rfl rfl hb4 ?_
    refine wZ rg (o_call (us := [eFormula f]) rfl (vl' vr (vn)) (ref08_Check_ctr h fun r9 h => ?_))
    refine Wl.guardT rfl rfl hb4 ?_
    refine wZ rg (o_neq rfl rfl (wZ rg (o_pickF rfl hb4 (v := .bool (r9 != 0)) rfl (mvZ (.bool (r9 != 0)) rfl ?_))))
    refine Wl.guard rfl rfl (fun hb5 => ?_) (fun hb5 => ?_)
    · replace h := h.2 hb5
      refine wZ rg (o_faP td24 rfl rfl (by rw [sz3]; decide) rfl ?_)
      refine Wl.guardT rfl rfl hb5 ?_
      refine wZ rg (o_loadB1 (atL (k := 3) rfl) sz3 ag3 rfl rfl (v := .int .i64 f.Vars) rfl ?_)
      refine Wl.guardT rfl rfl hb5 ?_
      refine wZ rg (o_gtr rfl rfl (wZ rg (o_pickF rfl hb5 (v := .bool (decide (8 < f.Vars))) rfl (mvZ (.bool (decide (8 < f.Vars))) rfl ?_))))
      refine Wl.guard rfl rfl (fun hb6 => ?_) (fun hb6 => ?_)
      · replace h := h.2 hb6
        refine mvZ (eL (AV.int .i64) a) rfl ?_
        refine Wl.guardT rfl rfl hb6 ?_
        refine wZ rg (o_faP td24 rfl rfl (by rw [sz3]; decide) rfl ?_)
        refine Wl.guardT rfl rfl hb6 ?_
        refine wZ rg (o_loadB1 (atL (k := 3) rfl) sz3 ag3 rfl rfl (v := .int .i64 f.Vars) rfl ?_)
        refine Wl.guardT rfl rfl hb6 ?_
        refine wZ rg (o_call (us := [eL (AV.int .i64) a, AV.int .i64 f.Vars]) rfl (vl' vr (vl' vr (vn))) (ref14_Check_ctr h fun r10 h => ?_))
        refine Wl.guardT rfl rfl hb6 ?_
        refine wZ rg (o_neq rfl rfl (wZ rg (o_pickF rfl hb6 (v := .bool (r10 != 0)) rfl (mvZ (.bool (r10 != 0)) rfl ?_))))
        refine Wl.guard rfl rfl (fun hb7 => ?_) (fun hb7 => ?_)
        · replace h := h.2 hb7
          refine mvZ (eL (AV.int .i64) b) rfl ?_
          refine Wl.guardT rfl rfl hb7 ?_
          refine wZ rg (o_faP td24 rfl rfl (by rw [sz3]; decide) rfl ?_)
          refine Wl.guardT rfl rfl hb7 ?_
          refine wZ rg (o_loadB1 (atL (k := 3) rfl) sz3 ag3 rfl rfl (v := .int .i64 f.Vars) rfl ?_)
          refine Wl.guardT rfl rfl hb7 ?_
          refine wZ rg (o_call (us := [eL (AV.int .i64) b, AV.int .i64 f.Vars]) rfl (vl' vr (vl' vr (vn))) (ref14_Check_ctr h fun r11 h => ?_))
          refine Wl.guardT rfl rfl hb7 ?_
          refine wZ rg (o_neq rfl rfl (wZ rg (o_pickF rfl hb7 (v := .bool (r11 != 0)) rfl (nZ ?_))))
          exact ⟨((r11 != 0), g1), (canon (fc vr (fc vr (fc vr (fc vr (fn))))) (sc rfl (sn))), h⟩
        replace h := h.1 hb7
        refine Wl.guardF rfl rfl hb7 rfl ?_
        refine Wl.guardF rfl rfl hb7 rfl ?_
        refine Wl.guardF rfl rfl hb7 rfl ?_
        refine Wl.guardF rfl rfl hb7 rfl ?_
        refine wZ rg (o_pickT rfl hb7 (v := .bool true) rfl (nZ ?_))
        exact ⟨(true, g1), (canon (fc vr (fc vr (fc vr (fc vr (fn))))) (sc rfl (sn))), h⟩
      replace h := h.1 hb6
      refine Wl.guardF rfl rfl hb6 rfl ?_
      refine Wl.guardF rfl rfl hb6 rfl ?_
      refine Wl.guardF rfl rfl hb6 rfl ?_
      refine Wl.guardF rfl rfl hb6 rfl ?_
      refine wZ rg (o_pickT rfl hb6 (v := .bool true) rfl (mvZ (.bool true) rfl ?_))
      refine Wl.guardF rfl rfl rfl rfl ?_
      refine Wl.guardF rfl rfl rfl rfl ?_
      refine Wl.guardF rfl rfl rfl rfl ?_
      refine Wl.guardF rfl rfl rfl rfl ?_
      refine Wl.guardF rfl rfl rfl rfl ?_
      refine wZ rg (o_pickT rfl rfl (v := .bool true) rfl (nZ ?_))
      exact ⟨(true, g1), (canon (fc vr (fc vr (fc vr (fc vr (fn))))) (sc rfl (sn))), h⟩
    replace h := h.1 hb5
    refine Wl.guardF rfl rfl hb5 rfl ?_
    refine Wl.guardF rfl rfl hb5 rfl ?_
    refine wZ rg (o_pickT rfl hb5 (v := .bool true) rfl (mvZ (.bool true) rfl ?_))
    refine Wl.guardF rfl rfl rfl rfl ?_
    refine Wl.guardF rfl rfl rfl rfl ?_
    refine Wl.guardF rfl rfl rfl rfl ?_
    refine Wl.guardF rfl rfl rfl rfl ?_
    refine Wl.guardF rfl rfl rfl rfl ?_
    refine wZ rg (o_pickT rfl rfl (v := .bool true) rfl (mvZ (.bool true) rfl ?_))
    refine Wl.guardF rfl rfl rfl rfl ?_
    refine Wl.guardF rfl rfl rfl rfl ?_
    refine Wl.guardF rfl rfl rfl rfl ?_
    refine Wl.guardF rfl rfl rfl rfl ?_
    refine Wl.guardF rfl rfl rfl rfl ?_
    refine wZ rg (o_pickT rfl rfl (v := .bool true) rfl (nZ ?_))
    exact ⟨(true, g1), (canon (fc vr (fc vr (fc vr (fc vr (fn))))) (sc rfl (sn))), h⟩
  replace h := h.1 hb4
  refine Wl.guardF rfl rfl hb4 rfl ?_
  refine Wl.guardF rfl rfl hb4 rfl ?_
  refine wZ rg (o_pickT rfl hb4 (v := .bool true) rfl (mvZ (.bool true) rfl ?_))
  refine Wl.guardF rfl rfl rfl rfl ?_
  refine Wl.guardF rfl rfl rfl rfl ?_
  refine Wl.guardF rfl rfl rfl rfl ?_
  refine wZ rg (o_pickT rfl rfl (v := .bool true) rfl (mvZ (.bool true) rfl ?_))
  refine Wl.guardF rfl rfl rfl rfl ?_
  refine Wl.guardF rfl rfl rfl rfl ?_
  refine Wl.guardF rfl rfl rfl rfl ?_
  refine Wl.guardF rfl rfl rfl rfl ?_
  refine Wl.guardF rfl rfl rfl rfl ?_
  refine wZ rg (o_pickT rfl rfl (v := .bool true) rfl (mvZ (.bool true) rfl ?_))
  refine Wl.guardF rfl rfl rfl rfl ?_
  refine Wl.guardF rfl rfl rfl rfl ?_
  refine Wl.guardF rfl rfl rfl rfl ?_
  refine Wl.guardF rfl rfl rfl rfl ?_
  refine Wl.guardF rfl rfl rfl rfl ?_
  refine wZ rg (o_pickT rfl rfl (v := .bool true) rfl (nZ ?_))
  exact ⟨(true, g1), (canon (fc vr (fc vr (fc vr (fc vr (fn))))) (sc rfl (sn))), h⟩
end Go.Proofs.Ytiamkdpljeemkaa
