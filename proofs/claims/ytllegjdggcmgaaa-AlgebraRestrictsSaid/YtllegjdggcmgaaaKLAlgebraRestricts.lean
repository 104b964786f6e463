/- Walks of functions. Conditions: none. -/
import Derived.Test.YtllegjdggcmgaaaWa
import Derived.Test.YtllegjdggcmgaaaGgTy
import Derived.Test.YtllegjdggcmgaaaK1
import Derived.Test.YtllegjdggcmgaaaK3
import Derived.Test.YtllegjdggcmgaaaK7
import Derived.Test.YtllegjdggcmgaaaK8
/- Walks of functions. Conditions: none. -/
namespace Go.Proofs.Ytllegjdggcmgaaa
open Go.Gg
set_option maxRecDepth 100000
set_option maxHeartbeats 4000000 in
theorem law16_AlgebraRestricts_ctr {d : GDiagram} {i : Int} {mask : Int} {Q : Bool → Prop} {S : St} {R : AV → St → Prop} (h : law16_AlgebraRestricts_W d i mask Q) (hQ : ∀ r1, Q r1 → R (AV.bool r1) S) :
    Ctr Try.prog 9 [eDiagram d, AV.int .i64 i, AV.int .i64 mask] S R := by
  unfold law16_AlgebraRestricts_W at h
  refine enterT Try.func9 rfl Try.ntmps9 Try.results9 (by kernel_rfl) (fun rg hrg => ?_)
  refine qZ (rZ (wZ rg (o_box (v := eDiagram d) rfl rfl (kk := 3) rfl (by decide) (fun g1 => (asZ (.bool false) rfl (nZ (qZ ?_)))))))
  obtain ⟨J, h, hJ⟩ := h
  refine Vc.join' (σ := ((Bool) × (Nat))) (fun y => J y.1) (fun y => envOf [(1, .int .i64 i), (2, .int .i64 mask), (3, .ptr rg 3 y.2 0 0), (22, .bool y.1)]) (fun y => stL S rg [(3, .arr 3 [eDiagram d], y.2)]) (fun y h => ?_) ?_
  · obtain ⟨x, g2⟩ := y
    replace h := hJ x h
    show Vc _ _ _ _ (envOf [(1, .int .i64 i), (2, .int .i64 mask), (3, .ptr rg 3 g2 0 0), (22, .bool x)]) (stL S rg [(3, .arr 3 [eDiagram d], g2)])
    refine Vc.cond' rfl (fun hb => ?_) (fun hb => ?_)
    · replace h := h.1 hb
      refine qZ (rZ (wZ rg (o_call (us := []) rfl (vn) (law16_awake_ctr h fun r h => (asZ (.bool r) rfl (nZ ?_))))))
      refine Vc.ret' ?_
      refine res_tmp (v := .bool r) rfl (res_nil ?_)
      show Gives _ (.bool r) _
      exact gives_out hrg (VW.refl _) (hQ _ h)
    replace h := h.2 hb
    refine Vc.skip' ?_
    refine qZ (rZ (wZ rg (o_loadBA (atL (k := 3) rfl) sz25 (by decide) ag25 rfl rfl (v := eDiagram d) rfl (mvZ (.int .i64 i) rfl (wZ rg (o_call (us := [eDiagram d, AV.int .i64 i, AV.bool true]) rfl (vl' vr (vl' vr (vl' vr (vn)))) (algebra_Restrict_ctr h fun r1 r2 h => (mvZ (.tuple [eDiagram r1, eErr 83 r2]) rfl (wZ rg (o_extract (v := eDiagram r1) rfl rfl rfl ?_))))))))))
    refine wZ rg (o_extract (v := eErr 83 r2) rfl rfl rfl (wZ rg (o_alloc zav25 ok25 (kk := 3) rfl (fun g3 => (wZ rg (o_storeB (atL (k := 7) rfl) sz25 (by decide) rfl (w := eDiagram r1) rfl rfl rfl (v := eDiagram r1) rfl setL (asZ (eErr 83 r2) rfl (nZ (qZ (rZ (wZ rg (o_loadBA (atL (k := 3) rfl) sz25 (by decide) ag25 rfl rfl (v := eDiagram d) rfl (mvZ (.int .i64 i) rfl ?_)))))))))))))
    refine wZ rg (o_call (us := [eDiagram d, AV.int .i64 i, AV.bool false]) rfl (vl' vr (vl' vr (vl' vr (vn)))) (algebra_Restrict_ctr h fun r3 r4 h => (mvZ (.tuple [eDiagram r3, eErr 83 r4]) rfl (wZ rg (o_extract (v := eDiagram r3) rfl rfl rfl (wZ rg (o_extract (v := eErr 83 r4) rfl rfl rfl (wZ rg (o_alloc zav25 ok25 (kk := 3) rfl (fun g4 => ?_))))))))))
    refine wZ rg (o_storeB (atL (k := 9) rfl) sz25 (by decide) rfl (w := eDiagram r3) rfl rfl rfl (v := eDiagram r3) rfl setL (asZ (eErr 83 r4) rfl (nZ (qZ (rZ (wZ rg (o_loadBA (atL (k := 3) rfl) sz25 (by decide) ag25 rfl rfl (v := eDiagram d) rfl (mvZ (.int .i64 mask) rfl (wZ rg (o_call (us := [eDiagram d, AV.int .i64 mask]) rfl (vl' vr (vl' vr (vn))) (algebra_Exists_ctr h fun r5 r6 h => ?_)))))))))))
    refine mvZ (.tuple [eDiagram r5, eErr 83 r6]) rfl (wZ rg (o_extract (v := eDiagram r5) rfl rfl rfl (wZ rg (o_extract (v := eErr 83 r6) rfl rfl rfl (wZ rg (o_alloc zav25 ok25 (kk := 3) rfl (fun g5 => (wZ rg (o_storeB (atL (k := 11) rfl) sz25 (by decide) rfl (w := eDiagram r5) rfl rfl rfl (v := eDiagram r5) rfl setL (asZ (eErr 83 r6) rfl (nZ (qZ (rZ ?_)))))))))))))
    refine wZ rg (o_loadBA (atL (k := 3) rfl) sz25 (by decide) ag25 rfl rfl (v := eDiagram d) rfl (mvZ (.int .i64 mask) rfl (wZ rg (o_call (us := [eDiagram d, AV.int .i64 mask]) rfl (vl' vr (vl' vr (vn))) (algebra_Forall_ctr h fun r7 r8 h => (mvZ (.tuple [eDiagram r7, eErr 83 r8]) rfl (wZ rg (o_extract (v := eDiagram r7) rfl rfl rfl (wZ rg (o_extract (v := eErr 83 r8) rfl rfl rfl ?_))))))))))
    refine wZ rg (o_alloc zav25 ok25 (kk := 3) rfl (fun g6 => (wZ rg (o_storeB (atL (k := 13) rfl) sz25 (by decide) rfl (w := eDiagram r7) rfl rfl rfl (v := eDiagram r7) rfl setL (asZ (eErr 83 r8) rfl (nZ (qZ (rZ (wZ rg (o_loadBA (atL (k := 3) rfl) sz25 (by decide) ag25 rfl rfl (v := eDiagram d) rfl (wZ rg (o_call (us := [eDiagram d]) rfl (vl' vr (vn)) (ref15_Check_ctr h fun one h => ?_)))))))))))))
    refine asZ (.int .i64 one) rfl (nZ (qZ (rZ (mvZ (.int .i64 one) rfl (asZ (.int .i64 one) rfl (nZ ?_))))))
    obtain ⟨J, h, hJ⟩ := h
    refine Vc.join' (σ := ((Int) × (Nat × Nat × Nat × Nat × Nat))) (fun y => J y.1) (fun y => envOf [(1, .int .i64 i), (2, .int .i64 mask), (3, .ptr rg 3 y.2.1 0 0), (7, .ptr rg 7 y.2.2.1 0 0), (8, eErr 83 r2), (9, .ptr rg 9 y.2.2.2.1 0 0), (10, eErr 83 r4), (11, .ptr rg 11 y.2.2.2.2.1 0 0), (12, eErr 83 r6), (13, .ptr rg 13 y.2.2.2.2.2 0 0), (14, eErr 83 r8), (15, .int .i64 y.1), (16, .int .i64 one)]) (fun y => stL S rg [(3, .arr 3 [eDiagram d], y.2.1), (7, .arr 3 [eDiagram r1], y.2.2.1), (9, .arr 3 [eDiagram r3], y.2.2.2.1), (11, .arr 3 [eDiagram r5], y.2.2.2.2.1), (13, .arr 3 [eDiagram r7], y.2.2.2.2.2)]) (fun y h => ?_) ?_
    · obtain ⟨one1, ⟨g7, g8, g9, g10, g11⟩⟩ := y
      replace h := hJ one1 h
      show Vc _ _ _ _ (envOf [(1, .int .i64 i), (2, .int .i64 mask), (3, .ptr rg 3 g7 0 0), (7, .ptr rg 7 g8 0 0), (8, eErr 83 r2), (9, .ptr rg 9 g9 0 0), (10, eErr 83 r4), (11, .ptr rg 11 g10 0 0), (12, eErr 83 r6), (13, .ptr rg 13 g11 0 0), (14, eErr 83 r8), (15, .int .i64 one1), (16, .int .i64 one)]) (stL S rg [(3, .arr 3 [eDiagram d], g7), (7, .arr 3 [eDiagram r1], g8), (9, .arr 3 [eDiagram r3], g9), (11, .arr 3 [eDiagram r5], g10), (13, .arr 3 [eDiagram r7], g11)])
      obtain ⟨J, h, hJ⟩ := h
      refine Vc.join' (σ := ((Int) × (Nat × Nat × Nat × Nat × Nat))) (fun y => J y.1) (fun y => envOf [(1, .int .i64 i), (2, .int .i64 mask), (3, .ptr rg 3 y.2.1 0 0), (7, .ptr rg 7 y.2.2.1 0 0), (8, eErr 83 r2), (9, .ptr rg 9 y.2.2.2.1 0 0), (10, eErr 83 r4), (11, .ptr rg 11 y.2.2.2.2.1 0 0), (12, eErr 83 r6), (13, .ptr rg 13 y.2.2.2.2.2 0 0), (14, eErr 83 r8), (15, .int .i64 one1), (16, .int .i64 y.1)]) (fun y => stL S rg [(3, .arr 3 [eDiagram d], y.2.1), (7, .arr 3 [eDiagram r1], y.2.2.1), (9, .arr 3 [eDiagram r3], y.2.2.2.1), (11, .arr 3 [eDiagram r5], y.2.2.2.2.1), (13, .arr 3 [eDiagram r7], y.2.2.2.2.2)]) (fun y h => ?_) ?_
      · obtain ⟨two, ⟨g12, g13, g14, g15, g16⟩⟩ := y
        replace h := hJ two h
        show Vc _ _ _ _ (envOf [(1, .int .i64 i), (2, .int .i64 mask), (3, .ptr rg 3 g12 0 0), (7, .ptr rg 7 g13 0 0), (8, eErr 83 r2), (9, .ptr rg 9 g14 0 0), (10, eErr 83 r4), (11, .ptr rg 11 g15 0 0), (12, eErr 83 r6), (13, .ptr rg 13 g16 0 0), (14, eErr 83 r8), (15, .int .i64 one1), (16, .int .i64 two)]) (stL S rg [(3, .arr 3 [eDiagram d], g12), (7, .arr 3 [eDiagram r1], g13), (9, .arr 3 [eDiagram r3], g14), (11, .arr 3 [eDiagram r5], g15), (13, .arr 3 [eDiagram r7], g16)])
        obtain ⟨J, h, hJ⟩ := h
        refine Vc.join' (σ := ((Unit) × (Nat × Nat × Nat × Nat × Nat))) (fun y => J y.1) (fun y => envOf [(1, .int .i64 i), (2, .int .i64 mask), (3, .ptr rg 3 y.2.1 0 0), (7, .ptr rg 7 y.2.2.1 0 0), (8, eErr 83 r2), (9, .ptr rg 9 y.2.2.2.1 0 0), (10, eErr 83 r4), (11, .ptr rg 11 y.2.2.2.2.1 0 0), (12, eErr 83 r6), (13, .ptr rg 13 y.2.2.2.2.2 0 0), (14, eErr 83 r8), (15, .int .i64 one1), (16, .int .i64 two)]) (fun y => stL S rg [(3, .arr 3 [eDiagram d], y.2.1), (7, .arr 3 [eDiagram r1], y.2.2.1), (9, .arr 3 [eDiagram r3], y.2.2.2.1), (11, .arr 3 [eDiagram r5], y.2.2.2.2.1), (13, .arr 3 [eDiagram r7], y.2.2.2.2.2)]) (fun y h => ?_) ?_
        · obtain ⟨_, ⟨g17, g18, g19, g20, g21⟩⟩ := y
          replace h := hJ () h
          show Vc _ _ _ _ (envOf [(1, .int .i64 i), (2, .int .i64 mask), (3, .ptr rg 3 g17 0 0), (7, .ptr rg 7 g18 0 0), (8, eErr 83 r2), (9, .ptr rg 9 g19 0 0), (10, eErr 83 r4), (11, .ptr rg 11 g20 0 0), (12, eErr 83 r6), (13, .ptr rg 13 g21 0 0), (14, eErr 83 r8), (15, .int .i64 one1), (16, .int .i64 two)]) (stL S rg [(3, .arr 3 [eDiagram d], g17), (7, .arr 3 [eDiagram r1], g18), (9, .arr 3 [eDiagram r3], g19), (11, .arr 3 [eDiagram r5], g20), (13, .arr 3 [eDiagram r7], g21)])
          obtain ⟨J, h, hJ⟩ := h
          refine Vc.join' (σ := ((Unit) × (Nat × Nat × Nat))) (fun y => J y.1) (fun y => envOf [(2, .int .i64 mask), (3, .ptr rg 3 y.2.1 0 0), (11, .ptr rg 11 y.2.2.1 0 0), (12, eErr 83 r6), (13, .ptr rg 13 y.2.2.2 0 0), (14, eErr 83 r8), (16, .int .i64 two)]) (fun y => stL S rg [(3, .arr 3 [eDiagram d], y.2.1), (11, .arr 3 [eDiagram r5], y.2.2.1), (13, .arr 3 [eDiagram r7], y.2.2.2)]) (fun y h => ?_) ?_
          · obtain ⟨_, ⟨g22, g23, g24⟩⟩ := y
            replace h := hJ () h
            show Vc _ _ _ _ (envOf [(2, .int .i64 mask), (3, .ptr rg 3 g22 0 0), (11, .ptr rg 11 g23 0 0), (12, eErr 83 r6), (13, .ptr rg 13 g24 0 0), (14, eErr 83 r8), (16, .int .i64 two)]) (stL S rg [(3, .arr 3 [eDiagram d], g22), (11, .arr 3 [eDiagram r5], g23), (13, .arr 3 [eDiagram r7], g24)])
            refine qZ ?_
            rcases Bool.eq_false_or_eq_true (two != 0) with hb1 | hb1
            · replace h := h.1 hb1
              refine Vc.drawn' mixed rg (fun _ => jcr2) (by kernel_rfl) ?_
              refine dP rfl rfl (o_move (v := .int .i64 two) rfl (dP rfl rfl (o_neq rfl rfl (dP rfl rfl (o_move (v := .bool (two != 0)) rfl ?_)))))
              refine dGF rfl rfl hb1 rfl ?_
              refine dGF rfl rfl rfl rfl ?_
              refine dGF rfl rfl rfl rfl ?_
              refine dGU rfl rfl ?_
              refine dGU rfl rfl ?_
              refine dGF rfl rfl rfl rfl ?_
              refine dGF rfl rfl rfl rfl ?_
              refine dGU rfl rfl ?_
              refine dGU rfl rfl ?_
              refine dGU rfl rfl ?_
              refine dGU rfl rfl ?_
              refine dGU rfl rfl ?_
              refine dGF rfl rfl rfl rfl ?_
              refine dGF rfl rfl rfl rfl ?_
              refine dGU rfl rfl ?_
              refine dGU rfl rfl ?_
              refine dGU rfl rfl ?_
              refine dGU rfl rfl ?_
              refine dGU rfl rfl ?_
              refine dGF rfl rfl rfl rfl ?_
              refine dP rfl rfl (o_pickT rfl rfl (v := .bool true) rfl (dP rfl rfl (o_assign (v := .bool true) rfl (dN ?_))))
              refine Vc.ret' ?_
              refine res_tmp (v := .bool true) rfl (res_nil ?_)
              show Gives _ (.bool true) _
              exact gives_out hrg (VW.refl _) (hQ _ h)
            replace h := h.2 hb1
            rcases Bool.eq_false_or_eq_true (Option.isNone r6) with hb2 | hb2
            · replace h := h.1 hb2
              rcases Bool.eq_false_or_eq_true (Option.isNone r8) with hb3 | hb3
              · replace h := h.1 hb3
                obtain ⟨r9, hc, h⟩ := h
                obtain ⟨r10, hc1, h⟩ := h
                rcases Bool.eq_false_or_eq_true r10 with hb4 | hb4
                · replace h := h.1 hb4
                  obtain ⟨r11, hc2, h⟩ := h
                  obtain ⟨r12, hc3, h⟩ := h
                  refine Vc.drawn' mixed rg (usOf [(13, pc (eDiagram r9)), (14, pc (.bool r10)), (20, pc (eDiagram r11)), (21, pc (.bool r12))]) (by kernel_rfl) ?_
                  refine dP rfl rfl (o_move (v := .int .i64 two) rfl (dP rfl rfl (o_neq rfl rfl (dP rfl rfl (o_move (v := .bool (two != 0)) rfl ?_)))))
                  refine dGT rfl rfl hb1 ?_
                  refine dP rfl rfl (o_move (v := eErr 83 r6) rfl ?_)
                  refine dGT rfl rfl rfl ?_
                  refine dP rfl rfl (o_isnil td29 (E := 83) rfl rfl rfl ?_)
                  refine dGT rfl rfl rfl ?_
                  refine dP rfl rfl (o_move (v := .bool (Option.isNone r6)) rfl ?_)
                  refine dGT rfl rfl hb2 ?_
                  refine dP rfl rfl (o_move (v := eErr 83 r8) rfl ?_)
                  refine dGT rfl rfl rfl ?_
                  refine dP rfl rfl (o_isnil td29 (E := 83) rfl rfl rfl ?_)
                  refine dGT rfl rfl rfl ?_
                  refine dP rfl rfl (o_pickT rfl rfl (v := .bool (Option.isNone r8)) rfl ?_)
                  refine dGT rfl rfl rfl ?_
                  refine dP rfl rfl (o_move (v := .bool (Option.isNone r8)) rfl ?_)
                  refine dGT rfl rfl hb3 ?_
                  refine dL (E := ([(rg, 11)], [])) rfl rfl (by simp) (cfn) (o_loadBA (atL (k := 11) rfl) sz25 (by decide) ag25 rfl rfl (v := eDiagram r5) rfl ?_)
                  refine dGT rfl rfl rfl ?_
                  refine dL (E := ([(rg, 3)], [])) rfl rfl (by simp) (cfa (by simp [apartE]) (cfn)) (o_loadBA (atL (k := 3) rfl) sz25 (by decide) ag25 rfl rfl (v := eDiagram d) rfl ?_)
                  refine dGT rfl rfl rfl ?_
                  refine dP rfl rfl (o_move (v := .int .i64 mask) rfl ?_)
                  refine dGT rfl rfl rfl ?_
                  refine dC (vs := [eDiagram d, AV.int .i64 mask, AV.bool false]) rfl (vl' vr (vl' vr (vl' vr (vn)))) (fun _ => ref16_Quantify_ctr hc (fun _ hr => ⟨by rw [hr], rfl⟩)) rfl ?_
                  refine dGT rfl rfl rfl ?_
                  refine dC (vs := [eDiagram r5, eDiagram r9]) rfl (vl' vr (vl' vr (vn))) (fun _ => base_Diagram_ctr hc1 (fun _ hr => ⟨by rw [hr], rfl⟩)) rfl ?_
                  refine dGT rfl rfl rfl ?_
                  refine dP rfl rfl (o_pickT rfl rfl (v := .bool r10) rfl ?_)
                  refine dGT rfl rfl rfl ?_
                  refine dP rfl rfl (o_move (v := .bool r10) rfl ?_)
                  refine dGT rfl rfl hb4 ?_
                  refine dL (E := ([(rg, 13)], [])) rfl rfl (by simp) (cfo (by kernel_rfl) (cfo (by kernel_rfl) (cfn))) (o_loadBA (atL (k := 13) rfl) sz25 (by decide) ag25 rfl rfl (v := eDiagram r7) rfl ?_)
                  refine dGT rfl rfl rfl ?_
                  refine dL (E := ([(rg, 3)], [])) rfl rfl (by simp) (cfa (by simp [apartE]) (cfo (by kernel_rfl) (cfo (by kernel_rfl) (cfn)))) (o_loadBA (atL (k := 3) rfl) sz25 (by decide) ag25 rfl rfl (v := eDiagram d) rfl ?_)
                  refine dGT rfl rfl rfl ?_
                  refine dP rfl rfl (o_move (v := .int .i64 mask) rfl ?_)
                  refine dGT rfl rfl rfl ?_
                  refine dC (vs := [eDiagram d, AV.int .i64 mask, AV.bool true]) rfl (vl' vr (vl' vr (vl' vr (vn)))) (fun _ => ref16_Quantify_ctr hc2 (fun _ hr => ⟨by rw [hr], rfl⟩)) rfl ?_
                  refine dGT rfl rfl rfl ?_
                  refine dC (vs := [eDiagram r7, eDiagram r11]) rfl (vl' vr (vl' vr (vn))) (fun _ => base_Diagram_ctr hc3 (fun _ hr => ⟨by rw [hr], rfl⟩)) rfl ?_
                  refine dGT rfl rfl rfl ?_
                  refine dP rfl rfl (o_pickT rfl rfl (v := .bool r12) rfl (dP rfl rfl (o_pickF rfl rfl (v := .bool r12) rfl (dP rfl rfl (o_assign (v := .bool r12) rfl (dN ?_))))))
                  refine Vc.ret' ?_
                  refine res_tmp (v := .bool r12) rfl (res_nil ?_)
                  show Gives _ (.bool r12) _
                  exact gives_out hrg (VW.refl _) (hQ _ h)
                replace h := h.2 hb4
                refine Vc.drawn' mixed rg (usOf [(13, pc (eDiagram r9)), (14, pc (.bool r10))]) (by kernel_rfl) ?_
                refine dP rfl rfl (o_move (v := .int .i64 two) rfl (dP rfl rfl (o_neq rfl rfl (dP rfl rfl (o_move (v := .bool (two != 0)) rfl ?_)))))
                refine dGT rfl rfl hb1 ?_
                refine dP rfl rfl (o_move (v := eErr 83 r6) rfl ?_)
                refine dGT rfl rfl rfl ?_
                refine dP rfl rfl (o_isnil td29 (E := 83) rfl rfl rfl ?_)
                refine dGT rfl rfl rfl ?_
                refine dP rfl rfl (o_move (v := .bool (Option.isNone r6)) rfl ?_)
                refine dGT rfl rfl hb2 ?_
                refine dP rfl rfl (o_move (v := eErr 83 r8) rfl ?_)
                refine dGT rfl rfl rfl ?_
                refine dP rfl rfl (o_isnil td29 (E := 83) rfl rfl rfl ?_)
                refine dGT rfl rfl rfl ?_
                refine dP rfl rfl (o_pickT rfl rfl (v := .bool (Option.isNone r8)) rfl ?_)
                refine dGT rfl rfl rfl ?_
                refine dP rfl rfl (o_move (v := .bool (Option.isNone r8)) rfl ?_)
                refine dGT rfl rfl hb3 ?_
                refine dL (E := ([(rg, 11)], [])) rfl rfl (by simp) (cfn) (o_loadBA (atL (k := 11) rfl) sz25 (by decide) ag25 rfl rfl (v := eDiagram r5) rfl ?_)
                refine dGT rfl rfl rfl ?_
                refine dL (E := ([(rg, 3)], [])) rfl rfl (by simp) (cfa (by simp [apartE]) (cfn)) (o_loadBA (atL (k := 3) rfl) sz25 (by decide) ag25 rfl rfl (v := eDiagram d) rfl ?_)
                refine dGT rfl rfl rfl ?_
                refine dP rfl rfl (o_move (v := .int .i64 mask) rfl ?_)
                refine dGT rfl rfl rfl ?_
                refine dC (vs := [eDiagram d, AV.int .i64 mask, AV.bool false]) rfl (vl' vr (vl' vr (vl' vr (vn)))) (fun _ => ref16_Quantify_ctr hc (fun _ hr => ⟨by rw [hr], rfl⟩)) rfl ?_
                refine dGT rfl rfl rfl ?_
                refine dC (vs := [eDiagram r5, eDiagram r9]) rfl (vl' vr (vl' vr (vn))) (fun _ => base_Diagram_ctr hc1 (fun _ hr => ⟨by rw [hr], rfl⟩)) rfl ?_
                refine dGT rfl rfl rfl ?_
                refine dP rfl rfl (o_pickT rfl rfl (v := .bool r10) rfl ?_)
                refine dGT rfl rfl rfl ?_
                refine dP rfl rfl (o_move (v := .bool r10) rfl ?_)
                refine dGF rfl rfl hb4 rfl ?_
                refine dGF rfl rfl rfl rfl ?_
                refine dGF rfl rfl rfl rfl ?_
                refine dGF rfl rfl rfl rfl ?_
                refine dGF rfl rfl rfl rfl ?_
                refine dGT rfl rfl rfl ?_
                refine dP rfl rfl (o_pickF rfl rfl (v := .bool false) rfl (dP rfl rfl (o_pickF rfl rfl (v := .bool false) rfl (dP rfl rfl (o_assign (v := .bool false) rfl (dN ?_))))))
                refine Vc.ret' ?_
                refine res_tmp (v := .bool false) rfl (res_nil ?_)
                show Gives _ (.bool false) _
                exact gives_out hrg (VW.refl _) (hQ _ h)
              replace h := h.2 hb3
              refine Vc.drawn' mixed rg (fun _ => jcr2) (by kernel_rfl) ?_
              refine dP rfl rfl (o_move (v := .int .i64 two) rfl (dP rfl rfl (o_neq rfl rfl (dP rfl rfl (o_move (v := .bool (two != 0)) rfl ?_)))))
              refine dGT rfl rfl hb1 ?_
              refine dP rfl rfl (o_move (v := eErr 83 r6) rfl ?_)
              refine dGT rfl rfl rfl ?_
              refine dP rfl rfl (o_isnil td29 (E := 83) rfl rfl rfl ?_)
              refine dGT rfl rfl rfl ?_
              refine dP rfl rfl (o_move (v := .bool (Option.isNone r6)) rfl ?_)
              refine dGT rfl rfl hb2 ?_
              refine dP rfl rfl (o_move (v := eErr 83 r8) rfl ?_)
              refine dGT rfl rfl rfl ?_
              refine dP rfl rfl (o_isnil td29 (E := 83) rfl rfl rfl ?_)
              refine dGT rfl rfl rfl ?_
              refine dP rfl rfl (o_pickT rfl rfl (v := .bool (Option.isNone r8)) rfl ?_)
              refine dGT rfl rfl rfl ?_
              refine dP rfl rfl (o_move (v := .bool (Option.isNone r8)) rfl ?_)
              refine dGF rfl rfl hb3 rfl ?_
              refine dGF rfl rfl rfl rfl ?_
              refine dGF rfl rfl rfl rfl ?_
              refine dGF rfl rfl rfl rfl ?_
              refine dGF rfl rfl rfl rfl ?_
              refine dGT rfl rfl rfl ?_
              refine dP rfl rfl (o_pickF rfl rfl (v := .bool false) rfl ?_)
              refine dGT rfl rfl rfl ?_
              refine dP rfl rfl (o_move (v := .bool false) rfl ?_)
              refine dGF rfl rfl rfl rfl ?_
              refine dGF rfl rfl rfl rfl ?_
              refine dGF rfl rfl rfl rfl ?_
              refine dGF rfl rfl rfl rfl ?_
              refine dGF rfl rfl rfl rfl ?_
              refine dGT rfl rfl rfl ?_
              refine dP rfl rfl (o_pickF rfl rfl (v := .bool false) rfl (dP rfl rfl (o_pickF rfl rfl (v := .bool false) rfl (dP rfl rfl (o_assign (v := .bool false) rfl (dN ?_))))))
              refine Vc.ret' ?_
              refine res_tmp (v := .bool false) rfl (res_nil ?_)
              show Gives _ (.bool false) _
              exact gives_out hrg (VW.refl _) (hQ _ h)
            replace h := h.2 hb2
            refine Vc.drawn' mixed rg (fun _ => jcr2) (by kernel_rfl) ?_
            refine dP rfl rfl (o_move (v := .int .i64 two) rfl (dP rfl rfl (o_neq rfl rfl (dP rfl rfl (o_move (v := .bool (two != 0)) rfl ?_)))))
            refine dGT rfl rfl hb1 ?_
            refine dP rfl rfl (o_move (v := eErr 83 r6) rfl ?_)
            refine dGT rfl rfl rfl ?_
            refine dP rfl rfl (o_isnil td29 (E := 83) rfl rfl rfl ?_)
            refine dGT rfl rfl rfl ?_
            refine dP rfl rfl (o_move (v := .bool (Option.isNone r6)) rfl ?_)
            refine dGF rfl rfl hb2 rfl ?_
            refine dGF rfl rfl rfl rfl ?_
            refine dGT rfl rfl rfl ?_
            refine dP rfl rfl (o_pickF rfl rfl (v := .bool false) rfl ?_)
            refine dGT rfl rfl rfl ?_
            refine dP rfl rfl (o_move (v := .bool false) rfl ?_)
            refine dGF rfl rfl rfl rfl ?_
            refine dGF rfl rfl rfl rfl ?_
            refine dGF rfl rfl rfl rfl ?_
            refine dGF rfl rfl rfl rfl ?_
            refine dGF rfl rfl rfl rfl ?_
            refine dGT rfl rfl rfl ?_
            refine dP rfl rfl (o_pickF rfl rfl (v := .bool false) rfl ?_)
            refine dGT rfl rfl rfl ?_
            refine dP rfl rfl (o_move (v := .bool false) rfl ?_)
            refine dGF rfl rfl rfl rfl ?_
            refine dGF rfl rfl rfl rfl ?_
            refine dGF rfl rfl rfl rfl ?_
            refine dGF rfl rfl rfl rfl ?_
            refine dGF rfl rfl rfl rfl ?_
            refine dGT rfl rfl rfl ?_
            refine dP rfl rfl (o_pickF rfl rfl (v := .bool false) rfl (dP rfl rfl (o_pickF rfl rfl (v := .bool false) rfl (dP rfl rfl (o_assign (v := .bool false) rfl (dN ?_))))))
            refine Vc.ret' ?_
            refine res_tmp (v := .bool false) rfl (res_nil ?_)
            show Gives _ (.bool false) _
            exact gives_out hrg (VW.refl _) (hQ _ h)
          refine qZ ?_
          rcases Bool.eq_false_or_eq_true (one1 == 0) with hb5 | hb5
          · replace h := h.1 hb5
            rcases Bool.eq_false_or_eq_true (Option.isSome r2) with hb6 | hb6
            · replace h := h.1 hb6
              refine Vc.drawn' mixed rg (fun _ => jcr2) (by kernel_rfl) ?_
              refine dP rfl rfl (o_move (v := .int .i64 one1) rfl (dP rfl rfl (o_eql rfl rfl (dP rfl rfl (o_move (v := .bool (one1 == 0)) rfl ?_)))))
              refine dGT rfl rfl hb5 ?_
              refine dP rfl rfl (o_move (v := eErr 83 r2) rfl ?_)
              refine dGT rfl rfl rfl ?_
              refine dP rfl rfl (o_isnon td29 (E := 83) rfl rfl rfl ?_)
              refine dGT rfl rfl rfl ?_
              refine dP rfl rfl (o_move (v := .bool (Option.isSome r2)) rfl ?_)
              refine dGF rfl rfl hb6 rfl ?_
              refine dGF rfl rfl rfl rfl ?_
              refine dGT rfl rfl rfl ?_
              refine dP rfl rfl (o_pickT rfl rfl (v := .bool true) rfl ?_)
              refine dGT rfl rfl rfl ?_
              refine dP rfl rfl (o_move (v := .bool true) rfl ?_)
              refine dGF rfl rfl rfl rfl ?_
              refine dGF rfl rfl rfl rfl ?_
              refine dGF rfl rfl rfl rfl ?_
              refine dGF rfl rfl rfl rfl ?_
              refine dGF rfl rfl rfl rfl ?_
              refine dGF rfl rfl rfl rfl ?_
              refine dGT rfl rfl rfl ?_
              refine dP rfl rfl (o_pickT rfl rfl (v := .bool true) rfl ?_)
              refine dGT rfl rfl rfl ?_
              refine dP rfl rfl (o_move (v := .bool true) rfl ?_)
              refine dGF rfl rfl rfl rfl ?_
              refine dGF rfl rfl rfl rfl ?_
              refine dGF rfl rfl rfl rfl ?_
              refine dGF rfl rfl rfl rfl ?_
              refine dGF rfl rfl rfl rfl ?_
              refine dGF rfl rfl rfl rfl ?_
              refine dGT rfl rfl rfl ?_
              refine dP rfl rfl (o_pickT rfl rfl (v := .bool true) rfl (dP rfl rfl (o_pickT rfl rfl (v := .bool true) rfl (dN ?_))))
              refine Vc.cond' rfl (fun _ => ?_) (fun hb => Bool.noConfusion hb)
              refine qZ (rZ (asZ (.bool false) rfl (nZ ?_)))
              refine Vc.ret' ?_
              refine res_tmp (v := .bool false) rfl (res_nil ?_)
              show Gives _ (.bool false) _
              exact gives_out hrg (VW.refl _) (hQ _ h)
            replace h := h.2 hb6
            rcases Bool.eq_false_or_eq_true (Option.isSome r4) with hb7 | hb7
            · replace h := h.1 hb7
              refine Vc.drawn' mixed rg (fun _ => jcr2) (by kernel_rfl) ?_
              refine dP rfl rfl (o_move (v := .int .i64 one1) rfl (dP rfl rfl (o_eql rfl rfl (dP rfl rfl (o_move (v := .bool (one1 == 0)) rfl ?_)))))
              refine dGT rfl rfl hb5 ?_
              refine dP rfl rfl (o_move (v := eErr 83 r2) rfl ?_)
              refine dGT rfl rfl rfl ?_
              refine dP rfl rfl (o_isnon td29 (E := 83) rfl rfl rfl ?_)
              refine dGT rfl rfl rfl ?_
              refine dP rfl rfl (o_move (v := .bool (Option.isSome r2)) rfl ?_)
              refine dGT rfl rfl hb6 ?_
              refine dP rfl rfl (o_move (v := eErr 83 r4) rfl ?_)
              refine dGT rfl rfl rfl ?_
              refine dP rfl rfl (o_isnon td29 (E := 83) rfl rfl rfl ?_)
              refine dGT rfl rfl rfl ?_
              refine dP rfl rfl (o_pickF rfl rfl (v := .bool (Option.isSome r4)) rfl ?_)
              refine dGT rfl rfl rfl ?_
              refine dP rfl rfl (o_move (v := .bool (Option.isSome r4)) rfl ?_)
              refine dGF rfl rfl hb7 rfl ?_
              refine dGF rfl rfl rfl rfl ?_
              refine dGF rfl rfl rfl rfl ?_
              refine dGF rfl rfl rfl rfl ?_
              refine dGF rfl rfl rfl rfl ?_
              refine dGF rfl rfl rfl rfl ?_
              refine dGT rfl rfl rfl ?_
              refine dP rfl rfl (o_pickT rfl rfl (v := .bool true) rfl ?_)
              refine dGT rfl rfl rfl ?_
              refine dP rfl rfl (o_move (v := .bool true) rfl ?_)
              refine dGF rfl rfl rfl rfl ?_
              refine dGF rfl rfl rfl rfl ?_
              refine dGF rfl rfl rfl rfl ?_
              refine dGF rfl rfl rfl rfl ?_
              refine dGF rfl rfl rfl rfl ?_
              refine dGF rfl rfl rfl rfl ?_
              refine dGT rfl rfl rfl ?_
              refine dP rfl rfl (o_pickT rfl rfl (v := .bool true) rfl (dP rfl rfl (o_pickT rfl rfl (v := .bool true) rfl (dN ?_))))
              refine Vc.cond' rfl (fun _ => ?_) (fun hb => Bool.noConfusion hb)
              refine qZ (rZ (asZ (.bool false) rfl (nZ ?_)))
              refine Vc.ret' ?_
              refine res_tmp (v := .bool false) rfl (res_nil ?_)
              show Gives _ (.bool false) _
              exact gives_out hrg (VW.refl _) (hQ _ h)
            replace h := h.2 hb7
            obtain ⟨r13, hc4, h⟩ := h
            obtain ⟨r14, hc5, h⟩ := h
            rcases Bool.eq_false_or_eq_true (!r14) with hb8 | hb8
            · replace h := h.1 hb8
              refine Vc.drawn' mixed rg (usOf [(13, pc (eDiagram r13)), (14, pc (.bool r14))]) (by kernel_rfl) ?_
              refine dP rfl rfl (o_move (v := .int .i64 one1) rfl (dP rfl rfl (o_eql rfl rfl (dP rfl rfl (o_move (v := .bool (one1 == 0)) rfl ?_)))))
              refine dGT rfl rfl hb5 ?_
              refine dP rfl rfl (o_move (v := eErr 83 r2) rfl ?_)
              refine dGT rfl rfl rfl ?_
              refine dP rfl rfl (o_isnon td29 (E := 83) rfl rfl rfl ?_)
              refine dGT rfl rfl rfl ?_
              refine dP rfl rfl (o_move (v := .bool (Option.isSome r2)) rfl ?_)
              refine dGT rfl rfl hb6 ?_
              refine dP rfl rfl (o_move (v := eErr 83 r4) rfl ?_)
              refine dGT rfl rfl rfl ?_
              refine dP rfl rfl (o_isnon td29 (E := 83) rfl rfl rfl ?_)
              refine dGT rfl rfl rfl ?_
              refine dP rfl rfl (o_pickF rfl rfl (v := .bool (Option.isSome r4)) rfl ?_)
              refine dGT rfl rfl rfl ?_
              refine dP rfl rfl (o_move (v := .bool (Option.isSome r4)) rfl ?_)
              refine dGT rfl rfl hb7 ?_
              refine dL (E := ([(rg, 7)], [])) rfl rfl (by simp) (cfn) (o_loadBA (atL (k := 7) rfl) sz25 (by decide) ag25 rfl rfl (v := eDiagram r1) rfl ?_)
              refine dGT rfl rfl rfl ?_
              refine dL (E := ([(rg, 3)], [])) rfl rfl (by simp) (cfa (by simp [apartE]) (cfn)) (o_loadBA (atL (k := 3) rfl) sz25 (by decide) ag25 rfl rfl (v := eDiagram d) rfl ?_)
              refine dGT rfl rfl rfl ?_
              refine dP rfl rfl (o_move (v := .int .i64 i) rfl ?_)
              refine dGT rfl rfl rfl ?_
              refine dC (vs := [eDiagram d, AV.int .i64 i, AV.bool true]) rfl (vl' vr (vl' vr (vl' vr (vn)))) (fun _ => ref16_Restrict_ctr hc4 (fun _ hr => ⟨by rw [hr], rfl⟩)) rfl ?_
              refine dGT rfl rfl rfl ?_
              refine dC (vs := [eDiagram r1, eDiagram r13]) rfl (vl' vr (vl' vr (vn))) (fun _ => base_Diagram_ctr hc5 (fun _ hr => ⟨by rw [hr], rfl⟩)) rfl ?_
              refine dGT rfl rfl rfl ?_
              refine dP rfl rfl (o_not rfl ?_)
              refine dGT rfl rfl rfl ?_
              refine dP rfl rfl (o_pickF rfl rfl (v := .bool (!r14)) rfl ?_)
              refine dGT rfl rfl rfl ?_
              refine dP rfl rfl (o_move (v := .bool (!r14)) rfl ?_)
              refine dGF rfl rfl hb8 rfl ?_
              refine dGF rfl rfl rfl rfl ?_
              refine dGF rfl rfl rfl rfl ?_
              refine dGF rfl rfl rfl rfl ?_
              refine dGF rfl rfl rfl rfl ?_
              refine dGF rfl rfl rfl rfl ?_
              refine dGT rfl rfl rfl ?_
              refine dP rfl rfl (o_pickT rfl rfl (v := .bool true) rfl (dP rfl rfl (o_pickT rfl rfl (v := .bool true) rfl (dN ?_))))
              refine Vc.cond' rfl (fun _ => ?_) (fun hb => Bool.noConfusion hb)
              refine qZ (rZ (asZ (.bool false) rfl (nZ ?_)))
              refine Vc.ret' ?_
              refine res_tmp (v := .bool false) rfl (res_nil ?_)
              show Gives _ (.bool false) _
              exact gives_out hrg (VW.refl _) (hQ _ h)
            replace h := h.2 hb8
            obtain ⟨r15, hc6, h⟩ := h
            obtain ⟨r16, hc7, h⟩ := h
            refine Vc.drawn' mixed rg (usOf [(13, pc (eDiagram r13)), (14, pc (.bool r14)), (21, pc (eDiagram r15)), (22, pc (.bool r16))]) (by kernel_rfl) ?_
            refine dP rfl rfl (o_move (v := .int .i64 one1) rfl (dP rfl rfl (o_eql rfl rfl (dP rfl rfl (o_move (v := .bool (one1 == 0)) rfl ?_)))))
            refine dGT rfl rfl hb5 ?_
            refine dP rfl rfl (o_move (v := eErr 83 r2) rfl ?_)
            refine dGT rfl rfl rfl ?_
            refine dP rfl rfl (o_isnon td29 (E := 83) rfl rfl rfl ?_)
            refine dGT rfl rfl rfl ?_
            refine dP rfl rfl (o_move (v := .bool (Option.isSome r2)) rfl ?_)
            refine dGT rfl rfl hb6 ?_
            refine dP rfl rfl (o_move (v := eErr 83 r4) rfl ?_)
            refine dGT rfl rfl rfl ?_
            refine dP rfl rfl (o_isnon td29 (E := 83) rfl rfl rfl ?_)
            refine dGT rfl rfl rfl ?_
            refine dP rfl rfl (o_pickF rfl rfl (v := .bool (Option.isSome r4)) rfl ?_)
            refine dGT rfl rfl rfl ?_
            refine dP rfl rfl (o_move (v := .bool (Option.isSome r4)) rfl ?_)
            refine dGT rfl rfl hb7 ?_
            refine dL (E := ([(rg, 7)], [])) rfl rfl (by simp) (cfn) (o_loadBA (atL (k := 7) rfl) sz25 (by decide) ag25 rfl rfl (v := eDiagram r1) rfl ?_)
            refine dGT rfl rfl rfl ?_
            refine dL (E := ([(rg, 3)], [])) rfl rfl (by simp) (cfa (by simp [apartE]) (cfn)) (o_loadBA (atL (k := 3) rfl) sz25 (by decide) ag25 rfl rfl (v := eDiagram d) rfl ?_)
            refine dGT rfl rfl rfl ?_
            refine dP rfl rfl (o_move (v := .int .i64 i) rfl ?_)
            refine dGT rfl rfl rfl ?_
            refine dC (vs := [eDiagram d, AV.int .i64 i, AV.bool true]) rfl (vl' vr (vl' vr (vl' vr (vn)))) (fun _ => ref16_Restrict_ctr hc4 (fun _ hr => ⟨by rw [hr], rfl⟩)) rfl ?_
            refine dGT rfl rfl rfl ?_
            refine dC (vs := [eDiagram r1, eDiagram r13]) rfl (vl' vr (vl' vr (vn))) (fun _ => base_Diagram_ctr hc5 (fun _ hr => ⟨by rw [hr], rfl⟩)) rfl ?_
            refine dGT rfl rfl rfl ?_
            refine dP rfl rfl (o_not rfl ?_)
            refine dGT rfl rfl rfl ?_
            refine dP rfl rfl (o_pickF rfl rfl (v := .bool (!r14)) rfl ?_)
            refine dGT rfl rfl rfl ?_
            refine dP rfl rfl (o_move (v := .bool (!r14)) rfl ?_)
            refine dGT rfl rfl hb8 ?_
            refine dL (E := ([(rg, 9)], [])) rfl rfl (by simp) (cfo (by kernel_rfl) (cfo (by kernel_rfl) (cfn))) (o_loadBA (atL (k := 9) rfl) sz25 (by decide) ag25 rfl rfl (v := eDiagram r3) rfl ?_)
            refine dGT rfl rfl rfl ?_
            refine dL (E := ([(rg, 3)], [])) rfl rfl (by simp) (cfa (by simp [apartE]) (cfo (by kernel_rfl) (cfo (by kernel_rfl) (cfn)))) (o_loadBA (atL (k := 3) rfl) sz25 (by decide) ag25 rfl rfl (v := eDiagram d) rfl ?_)
            refine dGT rfl rfl rfl ?_
            refine dP rfl rfl (o_move (v := .int .i64 i) rfl ?_)
            refine dGT rfl rfl rfl ?_
            refine dC (vs := [eDiagram d, AV.int .i64 i, AV.bool false]) rfl (vl' vr (vl' vr (vl' vr (vn)))) (fun _ => ref16_Restrict_ctr hc6 (fun _ hr => ⟨by rw [hr], rfl⟩)) rfl ?_
            refine dGT rfl rfl rfl ?_
            refine dC (vs := [eDiagram r3, eDiagram r15]) rfl (vl' vr (vl' vr (vn))) (fun _ => base_Diagram_ctr hc7 (fun _ hr => ⟨by rw [hr], rfl⟩)) rfl ?_
            refine dGT rfl rfl rfl ?_
            refine dP rfl rfl (o_not rfl ?_)
            refine dGT rfl rfl rfl ?_
            refine dP rfl rfl (o_pickF rfl rfl (v := .bool (!r16)) rfl (dP rfl rfl (o_pickT rfl rfl (v := .bool (!r16)) rfl (dN ?_))))
            refine Vc.cond' rfl (fun hb9 => ?_) (fun hb9 => ?_)
            · replace h := h.1 hb9
              refine qZ (rZ (asZ (.bool false) rfl (nZ ?_)))
              refine Vc.ret' ?_
              refine res_tmp (v := .bool false) rfl (res_nil ?_)
              show Gives _ (.bool false) _
              exact gives_out hrg (VW.refl _) (hQ _ h)
            replace h := h.2 hb9
            refine Vc.skip' ?_
            exact ⟨((), (g17, g20, g21)), (canon (fc vr (fc vr (fc vr (fc vr (fc vr (fc vr (fc vr (fn)))))))) (sc rfl (sc rfl (sc rfl (sn))))), h⟩
          replace h := h.2 hb5
          refine Vc.drawn' mixed rg (fun _ => jcr2) (by kernel_rfl) ?_
          refine dP rfl rfl (o_move (v := .int .i64 one1) rfl (dP rfl rfl (o_eql rfl rfl (dP rfl rfl (o_move (v := .bool (one1 == 0)) rfl ?_)))))
          refine dGF rfl rfl hb5 rfl ?_
          refine dGF rfl rfl rfl rfl ?_
          refine dGF rfl rfl rfl rfl ?_
          refine dGU rfl rfl ?_
          refine dGU rfl rfl ?_
          refine dGF rfl rfl rfl rfl ?_
          refine dGF rfl rfl rfl rfl ?_
          refine dGU rfl rfl ?_
          refine dGU rfl rfl ?_
          refine dGU rfl rfl ?_
          refine dGU rfl rfl ?_
          refine dGU rfl rfl ?_
          refine dGU rfl rfl ?_
          refine dGF rfl rfl rfl rfl ?_
          refine dGF rfl rfl rfl rfl ?_
          refine dGU rfl rfl ?_
          refine dGU rfl rfl ?_
          refine dGU rfl rfl ?_
          refine dGU rfl rfl ?_
          refine dGU rfl rfl ?_
          refine dGU rfl rfl ?_
          refine dGF rfl rfl rfl rfl ?_
          refine dP rfl rfl (o_pickF rfl rfl (v := .bool false) rfl (dN ?_))
          refine Vc.cond' rfl (fun hb => Bool.noConfusion hb) (fun _ => ?_)
          refine Vc.skip' ?_
          exact ⟨((), (g17, g20, g21)), (canon (fc vr (fc vr (fc vr (fc vr (fc vr (fc vr (fc vr (fn)))))))) (sc rfl (sc rfl (sc rfl (sn))))), h⟩
        refine qZ (rZ (mvZ (.int .i64 one1) rfl (wZ rg (o_neq rfl rfl (mvZ (.bool (one1 != 0)) rfl ?_)))))
        refine Wl.guard rfl rfl (fun hb10 => ?_) (fun hb10 => ?_)
        · replace h := h.1 hb10
          refine wZ rg (o_loadBA (atL (k := 7) rfl) sz25 (by decide) ag25 rfl rfl (v := eDiagram r1) rfl ?_)
          refine Wl.guardT rfl rfl hb10 ?_
          refine mvZ (eErr 83 r2) rfl ?_
          refine Wl.guardT rfl rfl hb10 ?_
          refine mvZ (.int .i64 one1) rfl ?_
          refine Wl.guardT rfl rfl hb10 ?_
          refine wZ rg (o_call (us := [eDiagram r1, eErr 83 r2, AV.int .i64 one1]) rfl (vl' vr (vl' vr (vl' vr (vn)))) (law16_none_ctr h fun r17 h => ?_))
          refine Wl.guardT rfl rfl hb10 ?_
          refine wZ rg (o_not rfl ?_)
          refine Wl.guardT rfl rfl hb10 ?_
          refine mvZ (.bool (!r17)) rfl ?_
          refine Wl.guard rfl rfl (fun hb11 => ?_) (fun hb11 => ?_)
          · replace h := h.2 hb11
            refine wZ rg (o_loadBA (atL (k := 9) rfl) sz25 (by decide) ag25 rfl rfl (v := eDiagram r3) rfl ?_)
            refine Wl.guardT rfl rfl hb11 ?_
            refine mvZ (eErr 83 r4) rfl ?_
            refine Wl.guardT rfl rfl hb11 ?_
            refine mvZ (.int .i64 one1) rfl ?_
            refine Wl.guardT rfl rfl hb11 ?_
            refine wZ rg (o_call (us := [eDiagram r3, eErr 83 r4, AV.int .i64 one1]) rfl (vl' vr (vl' vr (vl' vr (vn)))) (law16_none_ctr h fun r18 h => ?_))
            refine Wl.guardT rfl rfl hb11 ?_
            refine wZ rg (o_not rfl ?_)
            refine Wl.guardT rfl rfl hb10 ?_
            refine wZ rg (o_pickF rfl hb11 (v := .bool (!r18)) rfl (wZ rg (o_pickT rfl hb10 (v := .bool (!r18)) rfl (mvZ (.bool (!r18)) rfl ?_))))
            refine Wl.guard rfl rfl (fun hb12 => ?_) (fun hb12 => ?_)
            · replace h := h.2 hb12
              refine mvZ (.int .i64 two) rfl ?_
              refine Wl.guardT rfl rfl hb12 ?_
              refine wZ rg (o_neq rfl rfl ?_)
              refine Wl.guardT rfl rfl hb12 ?_
              refine mvZ (.bool (two != 0)) rfl ?_
              refine Wl.guard rfl rfl (fun hb13 => ?_) (fun hb13 => ?_)
              · replace h := h.1 hb13
                refine wZ rg (o_loadBA (atL (k := 11) rfl) sz25 (by decide) ag25 rfl rfl (v := eDiagram r5) rfl ?_)
                refine Wl.guardT rfl rfl hb13 ?_
                refine mvZ (eErr 83 r6) rfl ?_
                refine Wl.guardT rfl rfl hb13 ?_
                refine mvZ (.int .i64 two) rfl ?_
                refine Wl.guardT rfl rfl hb13 ?_
                refine wZ rg (o_call (us := [eDiagram r5, eErr 83 r6, AV.int .i64 two]) rfl (vl' vr (vl' vr (vl' vr (vn)))) (law16_none_ctr h fun r19 h => ?_))
                refine Wl.guardT rfl rfl hb13 ?_
                refine wZ rg (o_not rfl ?_)
                refine Wl.guardT rfl rfl hb13 ?_
                refine mvZ (.bool (!r19)) rfl ?_
                refine Wl.guard rfl rfl (fun hb14 => ?_) (fun hb14 => ?_)
                · replace h := h.2 hb14
                  refine wZ rg (o_loadBA (atL (k := 13) rfl) sz25 (by decide) ag25 rfl rfl (v := eDiagram r7) rfl ?_)
                  refine Wl.guardT rfl rfl hb14 ?_
                  refine mvZ (eErr 83 r8) rfl ?_
                  refine Wl.guardT rfl rfl hb14 ?_
                  refine mvZ (.int .i64 two) rfl ?_
                  refine Wl.guardT rfl rfl hb14 ?_
                  refine wZ rg (o_call (us := [eDiagram r7, eErr 83 r8, AV.int .i64 two]) rfl (vl' vr (vl' vr (vl' vr (vn)))) (law16_none_ctr h fun r20 h => ?_))
                  refine Wl.guardT rfl rfl hb14 ?_
                  refine wZ rg (o_not rfl ?_)
                  refine Wl.guardT rfl rfl hb13 ?_
                  refine wZ rg (o_pickF rfl hb14 (v := .bool (!r20)) rfl ?_)
                  refine Wl.guardT rfl rfl hb12 ?_
                  refine wZ rg (o_pickT rfl hb13 (v := .bool (!r20)) rfl (wZ rg (o_pickF rfl hb12 (v := .bool (!r20)) rfl (nZ ?_))))
                  refine Vc.cond' rfl (fun hb15 => ?_) (fun hb15 => ?_)
                  · replace h := h.1 hb15
                    refine qZ (rZ (asZ (.bool false) rfl (nZ ?_)))
                    refine Vc.ret' ?_
                    refine res_tmp (v := .bool false) rfl (res_nil ?_)
                    show Gives _ (.bool false) _
                    exact gives_out hrg (VW.refl _) (hQ _ h)
                  replace h := h.2 hb15
                  refine Vc.skip' ?_
                  exact ⟨((), (g12, g13, g14, g15, g16)), (canon (fc vr (fc vr (fc vr (fc vr (fc vr (fc vr (fc vr (fc vr (fc vr (fc vr (fc vr (fc vr (fc vr (fn)))))))))))))) (sc rfl (sc rfl (sc rfl (sc rfl (sc rfl (sn))))))), h⟩
                replace h := h.1 hb14
                refine Wl.guardF rfl rfl hb14 rfl ?_
                refine Wl.guardF rfl rfl hb14 rfl ?_
                refine Wl.guardF rfl rfl hb14 rfl ?_
                refine Wl.guardF rfl rfl hb14 rfl ?_
                refine Wl.guardT rfl rfl hb13 ?_
                refine wZ rg (o_pickT rfl hb14 (v := .bool true) rfl ?_)
                refine Wl.guardT rfl rfl hb12 ?_
                refine wZ rg (o_pickT rfl hb13 (v := .bool true) rfl (wZ rg (o_pickF rfl hb12 (v := .bool true) rfl (nZ ?_))))
                refine Vc.cond' rfl (fun _ => ?_) (fun hb => Bool.noConfusion hb)
                refine qZ (rZ (asZ (.bool false) rfl (nZ ?_)))
                refine Vc.ret' ?_
                refine res_tmp (v := .bool false) rfl (res_nil ?_)
                show Gives _ (.bool false) _
                exact gives_out hrg (VW.refl _) (hQ _ h)
              replace h := h.2 hb13
              refine Wl.guardF rfl rfl hb13 rfl ?_
              refine Wl.guardF rfl rfl hb13 rfl ?_
              refine Wl.guardF rfl rfl hb13 rfl ?_
              refine Wl.guardF rfl rfl hb13 rfl ?_
              refine Wl.guardF rfl rfl hb13 rfl ?_
              refine Wl.guardU rfl rfl ?_
              refine Wl.guardU rfl rfl ?_
              refine Wl.guardU rfl rfl ?_
              refine Wl.guardU rfl rfl ?_
              refine Wl.guardU rfl rfl ?_
              refine Wl.guardF rfl rfl hb13 rfl ?_
              refine Wl.guardT rfl rfl hb12 ?_
              refine wZ rg (o_pickF rfl hb13 (v := .bool false) rfl (wZ rg (o_pickF rfl hb12 (v := .bool false) rfl (nZ ?_))))
              refine Vc.cond' rfl (fun hb => Bool.noConfusion hb) (fun _ => ?_)
              refine Vc.skip' ?_
              exact ⟨((), (g12, g13, g14, g15, g16)), (canon (fc vr (fc vr (fc vr (fc vr (fc vr (fc vr (fc vr (fc vr (fc vr (fc vr (fc vr (fc vr (fc vr (fn)))))))))))))) (sc rfl (sc rfl (sc rfl (sc rfl (sc rfl (sn))))))), h⟩
            replace h := h.1 hb12
            refine Wl.guardF rfl rfl hb12 rfl ?_
            refine Wl.guardF rfl rfl hb12 rfl ?_
            refine Wl.guardU rfl rfl ?_
            refine Wl.guardU rfl rfl ?_
            refine Wl.guardU rfl rfl ?_
            refine Wl.guardU rfl rfl ?_
            refine Wl.guardU rfl rfl ?_
            refine Wl.guardU rfl rfl ?_
            refine Wl.guardU rfl rfl ?_
            refine Wl.guardU rfl rfl ?_
            refine Wl.guardU rfl rfl ?_
            refine Wl.guardU rfl rfl ?_
            refine Wl.guardU rfl rfl ?_
            refine Wl.guardU rfl rfl ?_
            refine Wl.guardF rfl rfl hb12 rfl ?_
            refine wZ rg (o_pickT rfl hb12 (v := .bool true) rfl (nZ ?_))
            refine Vc.cond' rfl (fun _ => ?_) (fun hb => Bool.noConfusion hb)
            refine qZ (rZ (asZ (.bool false) rfl (nZ ?_)))
            refine Vc.ret' ?_
            refine res_tmp (v := .bool false) rfl (res_nil ?_)
            show Gives _ (.bool false) _
            exact gives_out hrg (VW.refl _) (hQ _ h)
          replace h := h.1 hb11
          refine Wl.guardF rfl rfl hb11 rfl ?_
          refine Wl.guardF rfl rfl hb11 rfl ?_
          refine Wl.guardF rfl rfl hb11 rfl ?_
          refine Wl.guardF rfl rfl hb11 rfl ?_
          refine Wl.guardT rfl rfl hb10 ?_
          refine wZ rg (o_pickT rfl hb11 (v := .bool true) rfl (wZ rg (o_pickT rfl hb10 (v := .bool true) rfl (mvZ (.bool true) rfl ?_))))
          refine Wl.guardF rfl rfl rfl rfl ?_
          refine Wl.guardF rfl rfl rfl rfl ?_
          refine Wl.guardF rfl rfl rfl rfl ?_
          refine Wl.guardU rfl rfl ?_
          refine Wl.guardU rfl rfl ?_
          refine Wl.guardU rfl rfl ?_
          refine Wl.guardU rfl rfl ?_
          refine Wl.guardU rfl rfl ?_
          refine Wl.guardU rfl rfl ?_
          refine Wl.guardU rfl rfl ?_
          refine Wl.guardU rfl rfl ?_
          refine Wl.guardU rfl rfl ?_
          refine Wl.guardU rfl rfl ?_
          refine Wl.guardU rfl rfl ?_
          refine Wl.guardU rfl rfl ?_
          refine Wl.guardF rfl rfl rfl rfl ?_
          refine wZ rg (o_pickT rfl rfl (v := .bool true) rfl (nZ ?_))
          refine Vc.cond' rfl (fun _ => ?_) (fun hb => Bool.noConfusion hb)
          refine qZ (rZ (asZ (.bool false) rfl (nZ ?_)))
          refine Vc.ret' ?_
          refine res_tmp (v := .bool false) rfl (res_nil ?_)
          show Gives _ (.bool false) _
          exact gives_out hrg (VW.refl _) (hQ _ h)
        replace h := h.2 hb10
        refine Wl.guardF rfl rfl hb10 rfl ?_
        refine Wl.guardF rfl rfl hb10 rfl ?_
        refine Wl.guardF rfl rfl hb10 rfl ?_
        refine Wl.guardF rfl rfl hb10 rfl ?_
        refine Wl.guardF rfl rfl hb10 rfl ?_
        refine Wl.guardU rfl rfl ?_
        refine Wl.guardU rfl rfl ?_
        refine Wl.guardU rfl rfl ?_
        refine Wl.guardU rfl rfl ?_
        refine Wl.guardU rfl rfl ?_
        refine Wl.guardF rfl rfl hb10 rfl ?_
        refine wZ rg (o_pickF rfl hb10 (v := .bool false) rfl (mvZ (.bool false) rfl ?_))
        refine Wl.guardT rfl rfl rfl ?_
        refine mvZ (.int .i64 two) rfl ?_
        refine Wl.guardT rfl rfl rfl ?_
        refine wZ rg (o_neq rfl rfl ?_)
        refine Wl.guardT rfl rfl rfl ?_
        refine mvZ (.bool (two != 0)) rfl ?_
        refine Wl.guard rfl rfl (fun hb16 => ?_) (fun hb16 => ?_)
        · replace h := h.1 hb16
          refine wZ rg (o_loadBA (atL (k := 11) rfl) sz25 (by decide) ag25 rfl rfl (v := eDiagram r5) rfl ?_)
          refine Wl.guardT rfl rfl hb16 ?_
          refine mvZ (eErr 83 r6) rfl ?_
          refine Wl.guardT rfl rfl hb16 ?_
          refine mvZ (.int .i64 two) rfl ?_
          refine Wl.guardT rfl rfl hb16 ?_
          refine wZ rg (o_call (us := [eDiagram r5, eErr 83 r6, AV.int .i64 two]) rfl (vl' vr (vl' vr (vl' vr (vn)))) (law16_none_ctr h fun r21 h => ?_))
          refine Wl.guardT rfl rfl hb16 ?_
          refine wZ rg (o_not rfl ?_)
          refine Wl.guardT rfl rfl hb16 ?_
          refine mvZ (.bool (!r21)) rfl ?_
          refine Wl.guard rfl rfl (fun hb17 => ?_) (fun hb17 => ?_)
          · replace h := h.2 hb17
            refine wZ rg (o_loadBA (atL (k := 13) rfl) sz25 (by decide) ag25 rfl rfl (v := eDiagram r7) rfl ?_)
            refine Wl.guardT rfl rfl hb17 ?_
            refine mvZ (eErr 83 r8) rfl ?_
            refine Wl.guardT rfl rfl hb17 ?_
            refine mvZ (.int .i64 two) rfl ?_
            refine Wl.guardT rfl rfl hb17 ?_
            refine wZ rg (o_call (us := [eDiagram r7, eErr 83 r8, AV.int .i64 two]) rfl (vl' vr (vl' vr (vl' vr (vn)))) (law16_none_ctr h fun r22 h => ?_))
            refine Wl.guardT rfl rfl hb17 ?_
            refine wZ rg (o_not rfl ?_)
            refine Wl.guardT rfl rfl hb16 ?_
            refine wZ rg (o_pickF rfl hb17 (v := .bool (!r22)) rfl ?_)
            refine Wl.guardT rfl rfl rfl ?_
            refine wZ rg (o_pickT rfl hb16 (v := .bool (!r22)) rfl (wZ rg (o_pickF rfl rfl (v := .bool (!r22)) rfl (nZ ?_))))
            refine Vc.cond' rfl (fun hb18 => ?_) (fun hb18 => ?_)
            · replace h := h.1 hb18
              refine qZ (rZ (asZ (.bool false) rfl (nZ ?_)))
              refine Vc.ret' ?_
              refine res_tmp (v := .bool false) rfl (res_nil ?_)
              show Gives _ (.bool false) _
              exact gives_out hrg (VW.refl _) (hQ _ h)
            replace h := h.2 hb18
            refine Vc.skip' ?_
            exact ⟨((), (g12, g13, g14, g15, g16)), (canon (fc vr (fc vr (fc vr (fc vr (fc vr (fc vr (fc vr (fc vr (fc vr (fc vr (fc vr (fc vr (fc vr (fn)))))))))))))) (sc rfl (sc rfl (sc rfl (sc rfl (sc rfl (sn))))))), h⟩
          replace h := h.1 hb17
          refine Wl.guardF rfl rfl hb17 rfl ?_
          refine Wl.guardF rfl rfl hb17 rfl ?_
          refine Wl.guardF rfl rfl hb17 rfl ?_
          refine Wl.guardF rfl rfl hb17 rfl ?_
          refine Wl.guardT rfl rfl hb16 ?_
          refine wZ rg (o_pickT rfl hb17 (v := .bool true) rfl ?_)
          refine Wl.guardT rfl rfl rfl ?_
          refine wZ rg (o_pickT rfl hb16 (v := .bool true) rfl (wZ rg (o_pickF rfl rfl (v := .bool true) rfl (nZ ?_))))
          refine Vc.cond' rfl (fun _ => ?_) (fun hb => Bool.noConfusion hb)
          refine qZ (rZ (asZ (.bool false) rfl (nZ ?_)))
          refine Vc.ret' ?_
          refine res_tmp (v := .bool false) rfl (res_nil ?_)
          show Gives _ (.bool false) _
          exact gives_out hrg (VW.refl _) (hQ _ h)
        replace h := h.2 hb16
        refine Wl.guardF rfl rfl hb16 rfl ?_
        refine Wl.guardF rfl rfl hb16 rfl ?_
        refine Wl.guardF rfl rfl hb16 rfl ?_
        refine Wl.guardF rfl rfl hb16 rfl ?_
        refine Wl.guardF rfl rfl hb16 rfl ?_
        refine Wl.guardU rfl rfl ?_
        refine Wl.guardU rfl rfl ?_
        refine Wl.guardU rfl rfl ?_
        refine Wl.guardU rfl rfl ?_
        refine Wl.guardU rfl rfl ?_
        refine Wl.guardF rfl rfl hb16 rfl ?_
        refine Wl.guardT rfl rfl rfl ?_
        refine wZ rg (o_pickF rfl hb16 (v := .bool false) rfl (wZ rg (o_pickF rfl rfl (v := .bool false) rfl (nZ ?_))))
        refine Vc.cond' rfl (fun hb => Bool.noConfusion hb) (fun _ => ?_)
        refine Vc.skip' ?_
        exact ⟨((), (g12, g13, g14, g15, g16)), (canon (fc vr (fc vr (fc vr (fc vr (fc vr (fc vr (fc vr (fc vr (fc vr (fc vr (fc vr (fc vr (fc vr (fn)))))))))))))) (sc rfl (sc rfl (sc rfl (sc rfl (sc rfl (sn))))))), h⟩
      refine qZ (rZ (mvZ (.int .i64 one) rfl (wZ rg (o_eql rfl rfl (mvZ (.bool (one == 0)) rfl ?_)))))
      refine Wl.guard rfl rfl (fun hb19 => ?_) (fun hb19 => ?_)
      · replace h := h.1 hb19
        refine mvZ (.int .i64 mask) rfl ?_
        refine Wl.guardT rfl rfl hb19 ?_
        refine wZ rg (o_lss rfl rfl ?_)
        refine Wl.guardT rfl rfl hb19 ?_
        refine mvZ (.bool (decide (mask < 0))) rfl ?_
        refine Wl.guard rfl rfl (fun hb20 => ?_) (fun hb20 => ?_)
        · replace h := h.2 hb20
          refine mvZ (.int .i64 mask) rfl ?_
          refine Wl.guardT rfl rfl hb20 ?_
          refine wZ rg (o_faP td25 rfl rfl (by rw [sz22]; decide) rfl ?_)
          refine Wl.guardT rfl rfl hb20 ?_
          refine wZ rg (o_loadB1 (atL (k := 3) rfl) sz22 ag22 rfl rfl (v := eL (AV.int .i64) d.Order) rfl ?_)
          refine Wl.guardT rfl rfl hb20 ?_
          refine wZ rg (o_len td22 rfl ?_)
          refine Wl.guardT rfl rfl hb20 ?_
          refine wZ rg (o_shlG rfl rfl h.1 ?_)
          replace h := h.2
          refine Wl.guardT rfl rfl hb20 ?_
          refine wZ rg (o_geq rfl rfl ?_)
          refine Wl.guardT rfl rfl hb19 ?_
          refine wZ rg (o_pickF rfl hb20 (v := .bool (decide ((1 * 2 ^ (Int.toNat (d.Order.length : Int))) ≤ mask))) rfl (wZ rg (o_pickT rfl hb19 (v := .bool (decide ((1 * 2 ^ (Int.toNat (d.Order.length : Int))) ≤ mask))) rfl (nZ ?_))))
          refine Vc.cond' rfl (fun hb21 => ?_) (fun hb21 => ?_)
          · replace h := h.1 hb21
            refine rZ ?_
            refine asZ (.int .i64 3) rfl (nZ ?_)
            exact ⟨(3, (g7, g8, g9, g10, g11)), (canon (fc vr (fc vr (fc vr (fc vr (fc vr (fc vr (fc vr (fc vr (fc vr (fc vr (fc vr (fc vr (fc vr (fn)))))))))))))) (sc rfl (sc rfl (sc rfl (sc rfl (sc rfl (sn))))))), h⟩
          replace h := h.2 hb21
          refine Vc.skip' ?_
          exact ⟨(one, (g7, g8, g9, g10, g11)), (canon (fc vr (fc vr (fc vr (fc vr (fc vr (fc vr (fc vr (fc vr (fc vr (fc vr (fc vr (fc vr (fc vr (fn)))))))))))))) (sc rfl (sc rfl (sc rfl (sc rfl (sc rfl (sn))))))), h⟩
        replace h := h.1 hb20
        refine Wl.guardF rfl rfl hb20 rfl ?_
        refine Wl.guardF rfl rfl hb20 rfl ?_
        refine Wl.guardF rfl rfl hb20 rfl ?_
        refine Wl.guardF rfl rfl hb20 rfl ?_
        refine Wl.guardF rfl rfl hb20 rfl ?_
        refine Wl.guardT rfl rfl hb19 ?_
        refine wZ rg (o_pickT rfl hb20 (v := .bool true) rfl (wZ rg (o_pickT rfl hb19 (v := .bool true) rfl (nZ ?_))))
        refine Vc.cond' rfl (fun _ => ?_) (fun hb => Bool.noConfusion hb)
        refine rZ ?_
        refine asZ (.int .i64 3) rfl (nZ ?_)
        exact ⟨(3, (g7, g8, g9, g10, g11)), (canon (fc vr (fc vr (fc vr (fc vr (fc vr (fc vr (fc vr (fc vr (fc vr (fc vr (fc vr (fc vr (fc vr (fn)))))))))))))) (sc rfl (sc rfl (sc rfl (sc rfl (sc rfl (sn))))))), h⟩
      replace h := h.2 hb19
      refine Wl.guardF rfl rfl hb19 rfl ?_
      refine Wl.guardF rfl rfl hb19 rfl ?_
      refine Wl.guardU rfl rfl ?_
      refine Wl.guardU rfl rfl ?_
      refine Wl.guardU rfl rfl ?_
      refine Wl.guardU rfl rfl ?_
      refine Wl.guardU rfl rfl ?_
      refine Wl.guardU rfl rfl ?_
      refine Wl.guardF rfl rfl hb19 rfl ?_
      refine wZ rg (o_pickF rfl hb19 (v := .bool false) rfl (nZ ?_))
      refine Vc.cond' rfl (fun hb => Bool.noConfusion hb) (fun _ => ?_)
      refine Vc.skip' ?_
      exact ⟨(one, (g7, g8, g9, g10, g11)), (canon (fc vr (fc vr (fc vr (fc vr (fc vr (fc vr (fc vr (fc vr (fc vr (fc vr (fc vr (fc vr (fc vr (fn)))))))))))))) (sc rfl (sc rfl (sc rfl (sc rfl (sc rfl (sn))))))), h⟩
    refine qZ (rZ (mvZ (.int .i64 one) rfl (wZ rg (o_eql rfl rfl (mvZ (.bool (one == 0)) rfl ?_)))))
    refine Wl.guard rfl rfl (fun hb22 => ?_) (fun hb22 => ?_)
    · replace h := h.1 hb22
      refine mvZ (.int .i64 i) rfl ?_
      refine Wl.guardT rfl rfl hb22 ?_
      refine wZ rg (o_lss rfl rfl ?_)
      refine Wl.guardT rfl rfl hb22 ?_
      refine mvZ (.bool (decide (i < 0))) rfl ?_
      refine Wl.guard rfl rfl (fun hb23 => ?_) (fun hb23 => ?_)
      · replace h := h.2 hb23
        refine mvZ (.int .i64 i) rfl ?_
        refine Wl.guardT rfl rfl hb23 ?_
        refine wZ rg (o_faP td25 rfl rfl (by rw [sz22]; decide) rfl ?_)
        refine Wl.guardT rfl rfl hb23 ?_
        refine wZ rg (o_loadB1 (atL (k := 3) rfl) sz22 ag22 rfl rfl (v := eL (AV.int .i64) d.Order) rfl ?_)
        refine Wl.guardT rfl rfl hb23 ?_
        refine wZ rg (o_len td22 rfl ?_)
        refine Wl.guardT rfl rfl hb23 ?_
        refine wZ rg (o_geq rfl rfl ?_)
        refine Wl.guardT rfl rfl hb22 ?_
        refine wZ rg (o_pickF rfl hb23 (v := .bool (decide ((d.Order.length : Int) ≤ i))) rfl (wZ rg (o_pickT rfl hb22 (v := .bool (decide ((d.Order.length : Int) ≤ i))) rfl (nZ ?_))))
        refine Vc.cond' rfl (fun hb24 => ?_) (fun hb24 => ?_)
        · replace h := h.1 hb24
          refine rZ ?_
          refine asZ (.int .i64 10) rfl (nZ ?_)
          exact ⟨(10, (g2, g3, g4, g5, g6)), (canon (fc vr (fc vr (fc vr (fc vr (fc vr (fc vr (fc vr (fc vr (fc vr (fc vr (fc vr (fc vr (fc vr (fn)))))))))))))) (sc rfl (sc rfl (sc rfl (sc rfl (sc rfl (sn))))))), h⟩
        replace h := h.2 hb24
        refine Vc.skip' ?_
        exact ⟨(one, (g2, g3, g4, g5, g6)), (canon (fc vr (fc vr (fc vr (fc vr (fc vr (fc vr (fc vr (fc vr (fc vr (fc vr (fc vr (fc vr (fc vr (fn)))))))))))))) (sc rfl (sc rfl (sc rfl (sc rfl (sc rfl (sn))))))), h⟩
      replace h := h.1 hb23
      refine Wl.guardF rfl rfl hb23 rfl ?_
      refine Wl.guardF rfl rfl hb23 rfl ?_
      refine Wl.guardF rfl rfl hb23 rfl ?_
      refine Wl.guardF rfl rfl hb23 rfl ?_
      refine Wl.guardT rfl rfl hb22 ?_
      refine wZ rg (o_pickT rfl hb23 (v := .bool true) rfl (wZ rg (o_pickT rfl hb22 (v := .bool true) rfl (nZ ?_))))
      refine Vc.cond' rfl (fun _ => ?_) (fun hb => Bool.noConfusion hb)
      refine rZ ?_
      refine asZ (.int .i64 10) rfl (nZ ?_)
      exact ⟨(10, (g2, g3, g4, g5, g6)), (canon (fc vr (fc vr (fc vr (fc vr (fc vr (fc vr (fc vr (fc vr (fc vr (fc vr (fc vr (fc vr (fc vr (fn)))))))))))))) (sc rfl (sc rfl (sc rfl (sc rfl (sc rfl (sn))))))), h⟩
    replace h := h.2 hb22
    refine Wl.guardF rfl rfl hb22 rfl ?_
    refine Wl.guardF rfl rfl hb22 rfl ?_
    refine Wl.guardU rfl rfl ?_
    refine Wl.guardU rfl rfl ?_
    refine Wl.guardU rfl rfl ?_
    refine Wl.guardU rfl rfl ?_
    refine Wl.guardU rfl rfl ?_
    refine Wl.guardF rfl rfl hb22 rfl ?_
    refine wZ rg (o_pickF rfl hb22 (v := .bool false) rfl (nZ ?_))
    refine Vc.cond' rfl (fun hb => Bool.noConfusion hb) (fun _ => ?_)
    refine Vc.skip' ?_
    exact ⟨(one, (g2, g3, g4, g5, g6)), (canon (fc vr (fc vr (fc vr (fc vr (fc vr (fc vr (fc vr (fc vr (fc vr (fc vr (fc vr (fc vr (fc vr (fn)))))))))))))) (sc rfl (sc rfl (sc rfl (sc rfl (sc rfl (sn))))))), h⟩
  refine rZ ?_
  refine wZ rg (o_call (us := []) rfl (vn) (law16_awake_ctr h fun r23 h => (wZ rg (o_not rfl (mvZ (.bool (!r23)) rfl ?_)))))
  refine Wl.guard rfl rfl (fun hb25 => ?_) (fun hb25 => ?_)
  · replace h := h.2 hb25
    refine wZ rg (o_loadBA (atL (k := 3) rfl) sz25 (by decide) ag25 rfl rfl (v := eDiagram d) rfl ?_)
    refine Wl.guardT rfl rfl hb25 ?_
    refine wZ rg (o_call (us := [eDiagram d]) rfl (vl' vr (vn)) (law16_large_ctr h fun r24 h => (wZ rg (o_pickF rfl hb25 (v := .bool r24) rfl (nZ ?_)))))
    exact ⟨(r24, g1), (canon (fc vr (fc vr (fc vr (fc vr (fn))))) (sc rfl (sn))), h⟩
  replace h := h.1 hb25
  refine Wl.guardF rfl rfl hb25 rfl ?_
  refine wZ rg (o_pickT rfl hb25 (v := .bool true) rfl (nZ ?_))
  exact ⟨(true, g1), (canon (fc vr (fc vr (fc vr (fc vr (fn))))) (sc rfl (sn))), h⟩
end Go.Proofs.Ytllegjdggcmgaaa
