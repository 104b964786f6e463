/- Walks of functions. Conditions: none. -/
import Derived.Test.YtllegjdggcmgaaaWa
import Derived.Test.YtllegjdggcmgaaaGgTy
import Derived.Test.YtllegjdggcmgaaaK1
import Derived.Test.YtllegjdggcmgaaaK3
import Derived.Test.YtllegjdggcmgaaaK5
/- Walks of functions. Conditions: none. -/
namespace Go.Proofs.Ytllegjdggcmgaaa
open Go.Gg
set_option maxRecDepth 100000
theorem law15_DiagramBuilds_ctr {f : GFormula} {o : List Int} {Q : Bool → Prop} {S : St} {R : AV → St → Prop} (h : law15_DiagramBuilds_W f o Q) (hQ : ∀ r1, Q r1 → R (AV.bool r1) S) :
    Ctr Try.prog 12 [eFormula f, eL (AV.int .i64) o] S R := by
  unfold law15_DiagramBuilds_W at h
  refine enterT Try.func12 rfl Try.ntmps12 Try.results12 (by kernel_rfl) (fun rg hrg => ?_)
  refine qZ (rZ (wZ rg (o_box (v := eFormula f) rfl rfl (kk := 3) rfl (by decide) (fun g1 => (asZ (.bool false) rfl (nZ (qZ ?_)))))))
  obtain ⟨J, h, hJ⟩ := h
  refine Vc.join' (σ := ((Bool) × (Nat))) (fun y => J y.1) (fun y => envOf [(1, eL (AV.int .i64) o), (2, .ptr rg 2 y.2 0 0), (14, .bool y.1)]) (fun y => stL S rg [(2, .arr 3 [eFormula f], y.2)]) (fun y h => ?_) ?_
  · obtain ⟨x, g2⟩ := y
    replace h := hJ x h
    show Vc _ _ _ _ (envOf [(1, eL (AV.int .i64) o), (2, .ptr rg 2 g2 0 0), (14, .bool x)]) (stL S rg [(2, .arr 3 [eFormula f], g2)])
    refine Vc.cond' rfl (fun hb => ?_) (fun hb => ?_)
    · replace h := h.1 hb
      refine qZ (rZ (wZ rg (o_call (us := []) rfl (vn) (law15_awake_ctr h fun r h => (asZ (.bool r) rfl (nZ ?_))))))
      refine Vc.ret' ?_
      refine res_tmp (v := .bool r) rfl (res_nil ?_)
      show Gives _ (.bool r) _
      exact gives_out hrg (VW.refl _) (hQ _ h)
    replace h := h.2 hb
    refine Vc.skip' ?_
    refine qZ (rZ (wZ rg (o_loadBA (atL (k := 2) rfl) sz68 (by decide) ag68 rfl rfl (v := eFormula f) rfl (mvZ (eL (AV.int .i64) o) rfl (wZ rg (o_call (us := [eFormula f, eL (AV.int .i64) o]) rfl (vl' vr (vl' vr (vn))) (law15_problem_ctr h fun code h => (asZ (.int .i64 code) rfl (nZ ?_)))))))))
    obtain ⟨J, h, hJ⟩ := h
    refine Vc.join' (σ := ((Unit) × (Nat))) (fun y => J y.1) (fun y => envOf [(1, eL (AV.int .i64) o), (2, .ptr rg 2 y.2 0 0), (5, .int .i64 code)]) (fun y => stL S rg [(2, .arr 3 [eFormula f], y.2)]) (fun y h => ?_) ?_
    · obtain ⟨_, g3⟩ := y
      replace h := hJ () h
      show Vc _ _ _ _ (envOf [(1, eL (AV.int .i64) o), (2, .ptr rg 2 g3 0 0), (5, .int .i64 code)]) (stL S rg [(2, .arr 3 [eFormula f], g3)])
      refine qZ (rZ (wZ rg (o_loadBA (atL (k := 2) rfl) sz68 (by decide) ag68 rfl rfl (v := eFormula f) rfl (mvZ (eL (AV.int .i64) o) rfl (wZ rg (o_call (us := [eFormula f, eL (AV.int .i64) o]) rfl (vl' vr (vl' vr (vn))) (diagram_Build_ctr h fun r1 r2 h => (mvZ (.tuple [eDiagram r1, eErr 83 r2]) rfl (wZ rg (o_extract (v := eDiagram r1) rfl rfl rfl (wZ rg (o_extract (v := eErr 83 r2) rfl rfl rfl ?_))))))))))))
      refine wZ rg (o_alloc zav25 ok25 (kk := 3) rfl (fun g4 => (wZ rg (o_storeB (atL (k := 6) rfl) sz25 (by decide) rfl (w := eDiagram r1) rfl rfl rfl (v := eDiagram r1) rfl setL (asZ (eErr 83 r2) rfl (nZ (qZ (qZ (rZ (mvZ (.int .i64 code) rfl (wZ rg (o_neq rfl rfl (nZ ?_)))))))))))))
      refine Vc.cond' rfl (fun hb1 => ?_) (fun hb1 => ?_)
      · replace h := h.1 hb1
        refine qZ (rZ (wZ rg (o_loadBA (atL (k := 6) rfl) sz25 (by decide) ag25 rfl rfl (v := eDiagram r1) rfl (wZ rg (o_build td25 zav25 bok25 szs25 sz25 (ps := []) rfl rfl (v := .agg [.nil, .nil, .int .i64 0]) rfl (wZ rg (o_call (us := [eDiagram r1, eDiagram (⟨[], [], 0⟩ : GDiagram)]) rfl (vl' vr (vl' (VW.aggL (vl' (VW.nilL) (vl' (VW.nilL) (vl' vr (vn))))) (vn))) (base_Diagram_ctr h fun r3 h => ?_))))))))
        refine mvZ (.bool r3) rfl ?_
        refine Wl.guard rfl rfl (fun hb2 => ?_) (fun hb2 => ?_)
        · replace h := h.1 hb2
          refine mvZ (eErr 83 r2) rfl ?_
          refine Wl.guardT rfl rfl hb2 ?_
          refine wZ rg (o_call (us := [eErr 83 r2]) rfl (vl' vr (vn)) (base_Num_ctr h fun r4 h => ?_))
          refine Wl.guardT rfl rfl hb2 ?_
          refine mvZ (.int .i64 code) rfl ?_
          refine Wl.guardT rfl rfl hb2 ?_
          refine wZ rg (o_eql rfl rfl (wZ rg (o_pickT rfl hb2 (v := .bool (r4 == code)) rfl (asZ (.bool (r4 == code)) rfl (nZ ?_)))))
          refine Vc.ret' ?_
          refine res_tmp (v := .bool (r4 == code)) rfl (res_nil ?_)
          show Gives _ (.bool (r4 == code)) _
          exact gives_out hrg (VW.refl _) (hQ _ h)
        replace h := h.2 hb2
        refine Wl.guardF rfl rfl hb2 rfl ?_
        refine Wl.guardF rfl rfl hb2 rfl ?_
        refine Wl.guardF rfl rfl hb2 rfl ?_
        refine wZ rg (o_pickF rfl hb2 (v := .bool false) rfl (asZ (.bool false) rfl (nZ ?_)))
        refine Vc.ret' ?_
        refine res_tmp (v := .bool false) rfl (res_nil ?_)
        show Gives _ (.bool false) _
        exact gives_out hrg (VW.refl _) (hQ _ h)
      replace h := h.2 hb1
      refine Vc.skip' ?_
      refine qZ ?_
      rcases Bool.eq_false_or_eq_true (Option.isNone r2) with hb3 | hb3
      · replace h := h.1 hb3
        obtain ⟨r5, hc, h⟩ := h
        obtain ⟨r6, hc1, h⟩ := h
        refine Vc.drawn' mixed rg (usOf [(6, pc (eDiagram r5)), (7, pc (.bool r6))]) (by kernel_rfl) ?_
        refine dP rfl rfl (o_move (v := eErr 83 r2) rfl (dP rfl rfl (o_isnil td29 (E := 83) rfl rfl rfl (dP rfl rfl (o_move (v := .bool (Option.isNone r2)) rfl ?_)))))
        refine dGT rfl rfl hb3 ?_
        refine dL (E := ([(rg, 6)], [])) rfl rfl (by simp) (cfn) (o_loadBA (atL (k := 6) rfl) sz25 (by decide) ag25 rfl rfl (v := eDiagram r1) rfl ?_)
        refine dGT rfl rfl rfl ?_
        refine dL (E := ([(rg, 2)], [])) rfl rfl (by simp) (cfa (by simp [apartE]) (cfn)) (o_loadBA (atL (k := 2) rfl) sz68 (by decide) ag68 rfl rfl (v := eFormula f) rfl ?_)
        refine dGT rfl rfl rfl ?_
        refine dP rfl rfl (o_move (v := eL (AV.int .i64) o) rfl ?_)
        refine dGT rfl rfl rfl ?_
        refine dC (vs := [eFormula f, eL (AV.int .i64) o]) rfl (vl' vr (vl' vr (vn))) (fun _ => ref15_Build_ctr hc (fun _ hr => ⟨by rw [hr], rfl⟩)) rfl ?_
        refine dGT rfl rfl rfl ?_
        refine dC (vs := [eDiagram r1, eDiagram r5]) rfl (vl' vr (vl' vr (vn))) (fun _ => base_Diagram_ctr hc1 (fun _ hr => ⟨by rw [hr], rfl⟩)) rfl ?_
        refine dP rfl rfl (o_pickT rfl rfl (v := .bool r6) rfl (dP rfl rfl (o_assign (v := .bool r6) rfl (dN ?_))))
        refine Vc.ret' ?_
        refine res_tmp (v := .bool r6) rfl (res_nil ?_)
        show Gives _ (.bool r6) _
        exact gives_out hrg (VW.refl _) (hQ _ h)
      replace h := h.2 hb3
      refine Vc.drawn' mixed rg (fun _ => jcr2) (by kernel_rfl) ?_
      refine dP rfl rfl (o_move (v := eErr 83 r2) rfl (dP rfl rfl (o_isnil td29 (E := 83) rfl rfl rfl (dP rfl rfl (o_move (v := .bool (Option.isNone r2)) rfl ?_)))))
      refine dGF rfl rfl hb3 rfl ?_
      refine dGF rfl rfl rfl rfl ?_
      refine dGF rfl rfl rfl rfl ?_
      refine dGF rfl rfl rfl rfl ?_
      refine dGF rfl rfl rfl rfl ?_
      refine dP rfl rfl (o_pickF rfl rfl (v := .bool false) rfl (dP rfl rfl (o_assign (v := .bool false) rfl (dN ?_))))
      refine Vc.ret' ?_
      refine res_tmp (v := .bool false) rfl (res_nil ?_)
      show Gives _ (.bool false) _
      exact gives_out hrg (VW.refl _) (hQ _ h)
    refine qZ (rZ (mvZ (.int .i64 code) rfl (wZ rg (o_eql rfl rfl (mvZ (.bool (code == 0)) rfl ?_)))))
    refine Wl.guard rfl rfl (fun hb4 => ?_) (fun hb4 => ?_)
    · replace h := h.1 hb4
      refine wZ rg (o_faP td68 rfl rfl (by rw [sz3]; decide) rfl ?_)
      refine Wl.guardT rfl rfl hb4 ?_
      refine wZ rg (o_loadB1 (atL (k := 2) rfl) sz3 ag3 rfl rfl (v := .int .i64 f.Vars) rfl ?_)
      refine Wl.guardT rfl rfl hb4 ?_
      refine wZ rg (o_gtr rfl rfl (wZ rg (o_pickT rfl hb4 (v := .bool (decide (8 < f.Vars))) rfl (nZ ?_))))
      refine Vc.cond' rfl (fun hb5 => ?_) (fun hb5 => ?_)
      · replace h := h.1 hb5
        refine qZ (rZ (asZ (.bool true) rfl (nZ ?_)))
        refine Vc.ret' ?_
        refine res_tmp (v := .bool true) rfl (res_nil ?_)
        show Gives _ (.bool true) _
        exact gives_out hrg (VW.refl _) (hQ _ h)
      replace h := h.2 hb5
      refine Vc.skip' ?_
      exact ⟨((), g2), (canon (fc vr (fc vr (fc vr (fn)))) (sc rfl (sn))), h⟩
    replace h := h.2 hb4
    refine Wl.guardF rfl rfl hb4 rfl ?_
    refine Wl.guardF rfl rfl hb4 rfl ?_
    refine wZ rg (o_pickF rfl hb4 (v := .bool false) rfl (nZ ?_))
    refine Vc.cond' rfl (fun hb => Bool.noConfusion hb) (fun _ => ?_)
    refine Vc.skip' ?_
    exact ⟨((), g2), (canon (fc vr (fc vr (fc vr (fn)))) (sc rfl (sn))), h⟩
  refine rZ ?_
  refine wZ rg (o_call (us := []) rfl (vn) (law15_awake_ctr h fun r7 h => (wZ rg (o_not rfl (mvZ (.bool (!r7)) rfl ?_)))))
  refine Wl.guard rfl rfl (fun hb6 => ?_) (fun hb6 => ?_)
  · replace h := h.2 hb6
    refine mvZ (eL (AV.int .i64) o) rfl ?_
    refine Wl.guardT rfl rfl hb6 ?_
    refine wZ rg (o_len td22 rfl ?_)
    refine Wl.guardT rfl rfl hb6 ?_
    refine wZ rg (o_gtr rfl rfl (wZ rg (o_pickF rfl hb6 (v := .bool (decide (100 < (o.length : Int)))) rfl (nZ ?_))))
    exact ⟨((decide (100 < (o.length : Int))), g1), (canon (fc vr (fc vr (fc vr (fn)))) (sc rfl (sn))), h⟩
  replace h := h.1 hb6
  refine Wl.guardF rfl rfl hb6 rfl ?_
  refine Wl.guardF rfl rfl hb6 rfl ?_
  refine wZ rg (o_pickT rfl hb6 (v := .bool true) rfl (nZ ?_))
  exact ⟨(true, g1), (canon (fc vr (fc vr (fc vr (fn)))) (sc rfl (sn))), h⟩
end Go.Proofs.Ytllegjdggcmgaaa
