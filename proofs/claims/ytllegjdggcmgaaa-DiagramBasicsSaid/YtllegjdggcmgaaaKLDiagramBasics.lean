/- Walks of functions. Conditions: none. -/
import Derived.Test.YtllegjdggcmgaaaWa
import Derived.Test.YtllegjdggcmgaaaGgTy
import Derived.Test.YtllegjdggcmgaaaK1
import Derived.Test.YtllegjdggcmgaaaK3
import Derived.Test.YtllegjdggcmgaaaK7
/- Walks of functions. Conditions: none. -/
namespace Go.Proofs.Ytllegjdggcmgaaa
open Go.Gg
set_option maxRecDepth 100000
theorem law15_DiagramBasics_ctr {v : Bool} {i : Int} {o : List Int} {Q : Bool → Prop} {S : St} {R : AV → St → Prop} (h : law15_DiagramBasics_W v i o Q) (hQ : ∀ r1, Q r1 → R (AV.bool r1) S) :
    Ctr Try.prog 13 [AV.bool v, AV.int .i64 i, eL (AV.int .i64) o] S R := by
  unfold law15_DiagramBasics_W at h
  refine enterT Try.func13 rfl Try.ntmps13 Try.results13 (by kernel_rfl) (fun rg hrg => ?_)
  refine qZ (rZ (asZ (.bool false) rfl (nZ (qZ ?_))))
  obtain ⟨J, h, hJ⟩ := h
  refine Vc.join' (σ := (Bool)) (fun y => J y) (fun y => envOf [(0, .bool v), (1, .int .i64 i), (2, eL (AV.int .i64) o), (21, .bool y)]) (fun y => stL S rg []) (fun x h => ?_) ?_
  · replace h := hJ x h
    show Vc _ _ _ _ (envOf [(0, .bool v), (1, .int .i64 i), (2, eL (AV.int .i64) o), (21, .bool x)]) (stL S rg [])
    refine Vc.cond' rfl (fun hb => ?_) (fun hb => ?_)
    · replace h := h.1 hb
      refine qZ (rZ (wZ rg (o_call (us := []) rfl (vn) (law15_awake_ctr h fun r h => (asZ (.bool r) rfl (nZ ?_))))))
      refine Vc.ret' ?_
      refine res_tmp (v := .bool r) rfl (res_nil ?_)
      show Gives _ (.bool r) _
      exact gives_out hrg (VW.refl _) (hQ _ h)
    replace h := h.2 hb
    refine Vc.skip' ?_
    refine qZ (rZ (mvZ (.bool v) rfl (mvZ (eL (AV.int .i64) o) rfl (wZ rg (o_call (us := [AV.bool v, eL (AV.int .i64) o]) rfl (vl' vr (vl' vr (vn))) (diagram_Constant_ctr h fun r1 r2 h => (mvZ (.tuple [eDiagram r1, eErr 83 r2]) rfl (wZ rg (o_extract (v := eDiagram r1) rfl rfl rfl (wZ rg (o_extract (v := eErr 83 r2) rfl rfl rfl (wZ rg (o_alloc zav25 ok25 (kk := 3) rfl (fun g1 => ?_))))))))))))))
    refine wZ rg (o_storeB (atL (k := 7) rfl) sz25 (by decide) rfl (w := eDiagram r1) rfl rfl rfl (v := eDiagram r1) rfl setL (asZ (eErr 83 r2) rfl (nZ (qZ (rZ (mvZ (.int .i64 i) rfl (mvZ (eL (AV.int .i64) o) rfl (wZ rg (o_call (us := [AV.int .i64 i, eL (AV.int .i64) o]) rfl (vl' vr (vl' vr (vn))) (diagram_Event_ctr h fun r3 r4 h => (mvZ (.tuple [eDiagram r3, eErr 83 r4]) rfl ?_)))))))))))
    refine wZ rg (o_extract (v := eDiagram r3) rfl rfl rfl (wZ rg (o_extract (v := eErr 83 r4) rfl rfl rfl (wZ rg (o_alloc zav25 ok25 (kk := 3) rfl (fun g2 => (wZ rg (o_storeB (atL (k := 9) rfl) sz25 (by decide) rfl (w := eDiagram r3) rfl rfl rfl (v := eDiagram r3) rfl setL (asZ (eErr 83 r4) rfl (nZ (qZ (rZ (mvZ (eL (AV.int .i64) o) rfl (mvZ (eL (AV.int .i64) o) rfl (wZ rg (o_len td22 rfl ?_))))))))))))))))
    refine wZ rg (o_call (us := [eL (AV.int .i64) o, AV.int .i64 (o.length : Int)]) rfl (vl' vr (vl' vr (vn))) (ref14_Check_ctr h fun one h => (asZ (.int .i64 one) rfl (nZ (qZ (rZ (mvZ (.int .i64 one) rfl (asZ (.int .i64 one) rfl (nZ ?_)))))))))
    obtain ⟨J, h, hJ⟩ := h
    refine Vc.join' (σ := ((Int) × (Nat × Nat))) (fun y => J y.1) (fun y => envOf [(0, .bool v), (1, .int .i64 i), (2, eL (AV.int .i64) o), (7, .ptr rg 7 y.2.1 0 0), (8, eErr 83 r2), (9, .ptr rg 9 y.2.2 0 0), (10, eErr 83 r4), (11, .int .i64 one), (12, .int .i64 y.1)]) (fun y => stL S rg [(7, .arr 3 [eDiagram r1], y.2.1), (9, .arr 3 [eDiagram r3], y.2.2)]) (fun y h => ?_) ?_
    · obtain ⟨two, ⟨g3, g4⟩⟩ := y
      replace h := hJ two h
      show Vc _ _ _ _ (envOf [(0, .bool v), (1, .int .i64 i), (2, eL (AV.int .i64) o), (7, .ptr rg 7 g3 0 0), (8, eErr 83 r2), (9, .ptr rg 9 g4 0 0), (10, eErr 83 r4), (11, .int .i64 one), (12, .int .i64 two)]) (stL S rg [(7, .arr 3 [eDiagram r1], g3), (9, .arr 3 [eDiagram r3], g4)])
      refine qZ (qZ (rZ (mvZ (eErr 83 r2) rfl (wZ rg (o_call (us := [eErr 83 r2]) rfl (vl' vr (vn)) (base_Num_ctr h fun r5 h => (mvZ (.int .i64 one) rfl (wZ rg (o_neq rfl rfl (mvZ (.bool (r5 != one)) rfl ?_))))))))))
      refine Wl.guard rfl rfl (fun hb1 => ?_) (fun hb1 => ?_)
      · replace h := h.2 hb1
        refine mvZ (eErr 83 r4) rfl ?_
        refine Wl.guardT rfl rfl hb1 ?_
        refine wZ rg (o_call (us := [eErr 83 r4]) rfl (vl' vr (vn)) (base_Num_ctr h fun r6 h => ?_))
        refine Wl.guardT rfl rfl hb1 ?_
        refine mvZ (.int .i64 two) rfl ?_
        refine Wl.guardT rfl rfl hb1 ?_
        refine wZ rg (o_neq rfl rfl (wZ rg (o_pickF rfl hb1 (v := .bool (r6 != two)) rfl (nZ ?_))))
        refine Vc.cond' rfl (fun hb2 => ?_) (fun hb2 => ?_)
        · replace h := h.1 hb2
          refine qZ (rZ (asZ (.bool false) rfl (nZ ?_)))
          refine Vc.ret' ?_
          refine res_tmp (v := .bool false) rfl (res_nil ?_)
          show Gives _ (.bool false) _
          exact gives_out hrg (VW.refl _) (hQ _ h)
        replace h := h.2 hb2
        refine Vc.skip' ?_
        refine qZ (rZ (wZ rg (o_build td25 zav25 bok25 szs25 sz25 (ps := []) rfl rfl (v := .agg [.nil, .nil, .int .i64 0]) rfl (wZ rg (o_build td25 zav25 bok25 szs25 sz25 (ps := []) rfl rfl (v := .agg [.nil, .nil, .int .i64 0]) rfl (wZ rg (o_alloc zav25 ok25 (kk := 3) rfl (fun g5 => (wZ rg (o_alloc zav25 ok25 (kk := 3) rfl (fun g6 => ?_)))))))))))
        refine wZ rg (o_storeB (atL (k := 13) rfl) sz25 (by decide) rfl (w := .agg [.nil, .nil, .int .i64 0]) rfl rfl rfl (v := .agg [.nil, .nil, .int .i64 0]) rfl setL (wZ rg (o_storeB (atL (k := 14) rfl) sz25 (by decide) rfl (w := .agg [.nil, .nil, .int .i64 0]) rfl rfl rfl (v := .agg [.nil, .nil, .int .i64 0]) rfl setL (nZ ?_))))
        obtain ⟨J, h, hJ⟩ := h
        refine Vc.join' (σ := ((GDiagram) × (Nat × Nat × Nat × Nat))) (fun y => J y.1) (fun y => envOf [(1, .int .i64 i), (2, eL (AV.int .i64) o), (7, .ptr rg 7 y.2.1 0 0), (9, .ptr rg 9 y.2.2.1 0 0), (12, .int .i64 two), (13, .ptr rg 13 y.2.2.2.1 0 0), (14, .ptr rg 14 y.2.2.2.2 0 0)]) (fun y => stL S rg [(7, .arr 3 [eDiagram r1], y.2.1), (9, .arr 3 [eDiagram r3], y.2.2.1), (13, .arr 3 [eDiagram y.1], y.2.2.2.1), (14, .arr 3 [.agg [.nil, .nil, .int .i64 0]], y.2.2.2.2)]) (fun y h => ?_) ?_
        · obtain ⟨x1, ⟨g7, g8, g9, g10⟩⟩ := y
          replace h := hJ x1 h
          show Vc _ _ _ _ (envOf [(1, .int .i64 i), (2, eL (AV.int .i64) o), (7, .ptr rg 7 g7 0 0), (9, .ptr rg 9 g8 0 0), (12, .int .i64 two), (13, .ptr rg 13 g9 0 0), (14, .ptr rg 14 g10 0 0)]) (stL S rg [(7, .arr 3 [eDiagram r1], g7), (9, .arr 3 [eDiagram r3], g8), (13, .arr 3 [eDiagram x1], g9), (14, .arr 3 [.agg [.nil, .nil, .int .i64 0]], g10)])
          obtain ⟨J, h, hJ⟩ := h
          refine Vc.join' (σ := ((GDiagram) × (Nat × Nat × Nat × Nat))) (fun y => J y.1) (fun y => envOf [(7, .ptr rg 7 y.2.1 0 0), (9, .ptr rg 9 y.2.2.1 0 0), (13, .ptr rg 13 y.2.2.2.1 0 0), (14, .ptr rg 14 y.2.2.2.2 0 0)]) (fun y => stL S rg [(7, .arr 3 [eDiagram r1], y.2.1), (9, .arr 3 [eDiagram r3], y.2.2.1), (13, .arr 3 [eDiagram x1], y.2.2.2.1), (14, .arr 3 [eDiagram y.1], y.2.2.2.2)]) (fun y h => ?_) ?_
          · obtain ⟨x2, ⟨g11, g12, g13, g14⟩⟩ := y
            replace h := hJ x2 h
            show Vc _ _ _ _ (envOf [(7, .ptr rg 7 g11 0 0), (9, .ptr rg 9 g12 0 0), (13, .ptr rg 13 g13 0 0), (14, .ptr rg 14 g14 0 0)]) (stL S rg [(7, .arr 3 [eDiagram r1], g11), (9, .arr 3 [eDiagram r3], g12), (13, .arr 3 [eDiagram x1], g13), (14, .arr 3 [eDiagram x2], g14)])
            refine qZ (rZ (wZ rg (o_loadBA (atL (k := 7) rfl) sz25 (by decide) ag25 rfl rfl (v := eDiagram r1) rfl (wZ rg (o_loadBA (atL (k := 13) rfl) sz25 (by decide) ag25 rfl rfl (v := eDiagram x1) rfl (wZ rg (o_call (us := [eDiagram r1, eDiagram x1]) rfl (vl' vr (vl' vr (vn))) (base_Diagram_ctr h fun r7 h => (mvZ (.bool r7) rfl ?_)))))))))
            refine Wl.guard rfl rfl (fun hb3 => ?_) (fun hb3 => ?_)
            · replace h := h.1 hb3
              refine wZ rg (o_loadBA (atL (k := 9) rfl) sz25 (by decide) ag25 rfl rfl (v := eDiagram r3) rfl ?_)
              refine Wl.guardT rfl rfl hb3 ?_
              refine wZ rg (o_loadBA (atL (k := 14) rfl) sz25 (by decide) ag25 rfl rfl (v := eDiagram x2) rfl ?_)
              refine Wl.guardT rfl rfl hb3 ?_
              refine wZ rg (o_call (us := [eDiagram r3, eDiagram x2]) rfl (vl' vr (vl' vr (vn))) (base_Diagram_ctr h fun r8 h => (wZ rg (o_pickT rfl hb3 (v := .bool r8) rfl (asZ (.bool r8) rfl (nZ ?_))))))
              refine Vc.ret' ?_
              refine res_tmp (v := .bool r8) rfl (res_nil ?_)
              show Gives _ (.bool r8) _
              exact gives_out hrg (VW.refl _) (hQ _ h)
            replace h := h.2 hb3
            refine Wl.guardF rfl rfl hb3 rfl ?_
            refine Wl.guardF rfl rfl hb3 rfl ?_
            refine wZ rg (o_pickF rfl hb3 (v := .bool false) rfl (asZ (.bool false) rfl (nZ ?_)))
            refine Vc.ret' ?_
            refine res_tmp (v := .bool false) rfl (res_nil ?_)
            show Gives _ (.bool false) _
            exact gives_out hrg (VW.refl _) (hQ _ h)
          refine qZ (rZ (mvZ (.int .i64 two) rfl (wZ rg (o_eql rfl rfl (nZ ?_)))))
          refine Vc.cond' rfl (fun hb4 => ?_) (fun hb4 => ?_)
          · replace h := h.1 hb4
            refine rZ ?_
            refine mvZ (.int .i64 i) rfl (mvZ (eL (AV.int .i64) o) rfl (wZ rg (o_call (us := [AV.int .i64 i, eL (AV.int .i64) o]) rfl (vl' vr (vl' vr (vn))) (ref15_Event_ctr h fun r9 h => (wZ rg (o_storeB (atL (k := 14) rfl) sz25 (by decide) rfl (w := eDiagram r9) rfl rfl rfl (v := eDiagram r9) rfl setL (nZ ?_)))))))
            exact ⟨(r9, (g7, g8, g9, g10)), (canon (fc vr (fc vr (fc vr (fc vr (fn))))) (sc rfl (sc rfl (sc rfl (sc rfl (sn)))))), h⟩
          replace h := h.2 hb4
          refine Vc.skip' ?_
          exact ⟨((⟨[], [], 0⟩ : GDiagram), (g7, g8, g9, g10)), (EWk.trans (EWk.ow (k := 14) (o' := .arr 3 [eDiagram (⟨[], [], 0⟩ : GDiagram)]) rfl (OW.one (VWL.vwc (vl' (VW.nilL) (vl' (VW.nilL) (vl' vr (vn))))))) (canon (fc vr (fc vr (fc vr (fc vr (fn))))) (sc rfl (sc rfl (sc rfl (sc rfl (sn))))))), h⟩
        refine qZ (rZ (mvZ (.int .i64 one) rfl (wZ rg (o_eql rfl rfl (nZ ?_)))))
        refine Vc.cond' rfl (fun hb5 => ?_) (fun hb5 => ?_)
        · replace h := h.1 hb5
          refine rZ ?_
          refine mvZ (.bool v) rfl (mvZ (eL (AV.int .i64) o) rfl (wZ rg (o_call (us := [AV.bool v, eL (AV.int .i64) o]) rfl (vl' vr (vl' vr (vn))) (ref15_Constant_ctr h fun r10 h => (wZ rg (o_storeB (atL (k := 13) rfl) sz25 (by decide) rfl (w := eDiagram r10) rfl rfl rfl (v := eDiagram r10) rfl setL (nZ ?_)))))))
          exact ⟨(r10, (g3, g4, g5, g6)), (canon (fc vr (fc vr (fc vr (fc vr (fc vr (fc vr (fc vr (fn)))))))) (sc rfl (sc rfl (sc rfl (sc rfl (sn)))))), h⟩
        replace h := h.2 hb5
        refine Vc.skip' ?_
        exact ⟨((⟨[], [], 0⟩ : GDiagram), (g3, g4, g5, g6)), (EWk.trans (EWk.ow (k := 13) (o' := .arr 3 [eDiagram (⟨[], [], 0⟩ : GDiagram)]) rfl (OW.one (VWL.vwc (vl' (VW.nilL) (vl' (VW.nilL) (vl' vr (vn))))))) (canon (fc vr (fc vr (fc vr (fc vr (fc vr (fc vr (fc vr (fn)))))))) (sc rfl (sc rfl (sc rfl (sc rfl (sn))))))), h⟩
      replace h := h.1 hb1
      refine Wl.guardF rfl rfl hb1 rfl ?_
      refine Wl.guardF rfl rfl hb1 rfl ?_
      refine Wl.guardF rfl rfl hb1 rfl ?_
      refine wZ rg (o_pickT rfl hb1 (v := .bool true) rfl (nZ ?_))
      refine Vc.cond' rfl (fun _ => ?_) (fun hb => Bool.noConfusion hb)
      refine qZ (rZ (asZ (.bool false) rfl (nZ ?_)))
      refine Vc.ret' ?_
      refine res_tmp (v := .bool false) rfl (res_nil ?_)
      show Gives _ (.bool false) _
      exact gives_out hrg (VW.refl _) (hQ _ h)
    refine qZ (rZ (mvZ (.int .i64 one) rfl (wZ rg (o_eql rfl rfl (mvZ (.bool (one == 0)) rfl ?_)))))
    refine Wl.guard rfl rfl (fun hb6 => ?_) (fun hb6 => ?_)
    · replace h := h.1 hb6
      refine mvZ (.int .i64 i) rfl ?_
      refine Wl.guardT rfl rfl hb6 ?_
      refine wZ rg (o_lss rfl rfl ?_)
      refine Wl.guardT rfl rfl hb6 ?_
      refine mvZ (.bool (decide (i < 0))) rfl ?_
      refine Wl.guard rfl rfl (fun hb7 => ?_) (fun hb7 => ?_)
      · replace h := h.2 hb7
        refine mvZ (.int .i64 i) rfl ?_
        refine Wl.guardT rfl rfl hb7 ?_
        refine mvZ (eL (AV.int .i64) o) rfl ?_
        refine Wl.guardT rfl rfl hb7 ?_
        refine wZ rg (o_len td22 rfl ?_)
        refine Wl.guardT rfl rfl hb7 ?_
        refine wZ rg (o_geq rfl rfl ?_)
        refine Wl.guardT rfl rfl hb6 ?_
        refine wZ rg (o_pickF rfl hb7 (v := .bool (decide ((o.length : Int) ≤ i))) rfl (wZ rg (o_pickT rfl hb6 (v := .bool (decide ((o.length : Int) ≤ i))) rfl (nZ ?_))))
        refine Vc.cond' rfl (fun hb8 => ?_) (fun hb8 => ?_)
        · replace h := h.1 hb8
          refine rZ ?_
          refine asZ (.int .i64 10) rfl (nZ ?_)
          exact ⟨(10, (g1, g2)), (canon (fc vr (fc vr (fc vr (fc vr (fc vr (fc vr (fc vr (fc vr (fc vr (fn)))))))))) (sc rfl (sc rfl (sn)))), h⟩
        replace h := h.2 hb8
        refine Vc.skip' ?_
        exact ⟨(one, (g1, g2)), (canon (fc vr (fc vr (fc vr (fc vr (fc vr (fc vr (fc vr (fc vr (fc vr (fn)))))))))) (sc rfl (sc rfl (sn)))), h⟩
      replace h := h.1 hb7
      refine Wl.guardF rfl rfl hb7 rfl ?_
      refine Wl.guardF rfl rfl hb7 rfl ?_
      refine Wl.guardF rfl rfl hb7 rfl ?_
      refine Wl.guardT rfl rfl hb6 ?_
      refine wZ rg (o_pickT rfl hb7 (v := .bool true) rfl (wZ rg (o_pickT rfl hb6 (v := .bool true) rfl (nZ ?_))))
      refine Vc.cond' rfl (fun _ => ?_) (fun hb => Bool.noConfusion hb)
      refine rZ ?_
      refine asZ (.int .i64 10) rfl (nZ ?_)
      exact ⟨(10, (g1, g2)), (canon (fc vr (fc vr (fc vr (fc vr (fc vr (fc vr (fc vr (fc vr (fc vr (fn)))))))))) (sc rfl (sc rfl (sn)))), h⟩
    replace h := h.2 hb6
    refine Wl.guardF rfl rfl hb6 rfl ?_
    refine Wl.guardF rfl rfl hb6 rfl ?_
    refine Wl.guardU rfl rfl ?_
    refine Wl.guardU rfl rfl ?_
    refine Wl.guardU rfl rfl ?_
    refine Wl.guardU rfl rfl ?_
    refine Wl.guardF rfl rfl hb6 rfl ?_
    refine wZ rg (o_pickF rfl hb6 (v := .bool false) rfl (nZ ?_))
    refine Vc.cond' rfl (fun hb => Bool.noConfusion hb) (fun _ => ?_)
    refine Vc.skip' ?_
    exact ⟨(one, (g1, g2)), (canon (fc vr (fc vr (fc vr (fc vr (fc vr (fc vr (fc vr (fc vr (fc vr (fn)))))))))) (sc rfl (sc rfl (sn)))), h⟩
  refine rZ ?_
  refine wZ rg (o_call (us := []) rfl (vn) (law15_awake_ctr h fun r11 h => (wZ rg (o_not rfl (mvZ (.bool (!r11)) rfl ?_)))))
  refine Wl.guard rfl rfl (fun hb9 => ?_) (fun hb9 => ?_)
  · replace h := h.2 hb9
    refine mvZ (eL (AV.int .i64) o) rfl ?_
    refine Wl.guardT rfl rfl hb9 ?_
    refine wZ rg (o_len td22 rfl ?_)
    refine Wl.guardT rfl rfl hb9 ?_
    refine wZ rg (o_gtr rfl rfl (wZ rg (o_pickF rfl hb9 (v := .bool (decide (100 < (o.length : Int)))) rfl (nZ ?_))))
    exact ⟨(decide (100 < (o.length : Int))), (canon (fc vr (fc vr (fc vr (fc vr (fn))))) (sn)), h⟩
  replace h := h.1 hb9
  refine Wl.guardF rfl rfl hb9 rfl ?_
  refine Wl.guardF rfl rfl hb9 rfl ?_
  refine wZ rg (o_pickT rfl hb9 (v := .bool true) rfl (nZ ?_))
  exact ⟨true, (canon (fc vr (fc vr (fc vr (fc vr (fn))))) (sn)), h⟩
end Go.Proofs.Ytllegjdggcmgaaa
