/- Walks of functions. Conditions: none. -/
import Derived.Test.YtllegjdggcmgaaaWa
import Derived.Test.YtllegjdggcmgaaaGgTy
import Derived.Test.YtllegjdggcmgaaaK1
import Derived.Test.YtllegjdggcmgaaaK3
import Derived.Test.YtllegjdggcmgaaaK4
import Derived.Test.YtllegjdggcmgaaaK6
import Derived.Test.YtllegjdggcmgaaaK5
/- Walks of functions. Conditions: none. -/
namespace Go.Proofs.Ytllegjdggcmgaaa
open Go.Gg
set_option maxRecDepth 100000
set_option maxHeartbeats 4000000 in
theorem law16_AlgebraChooses_ctr {c : GDiagram} {a : GDiagram} {x : GOther} {Q : Bool → Prop} {S : St} {R : AV → St → Prop} (h : law16_AlgebraChooses_W c a x Q) (hQ : ∀ r1, Q r1 → R (AV.bool r1) S) :
    Ctr Try.prog 7 [eDiagram c, eDiagram a, eOther x] S R := by
  unfold law16_AlgebraChooses_W at h
  refine enterT Try.func7 rfl Try.ntmps7 Try.results7 (by kernel_rfl) (fun rg hrg => ?_)
  refine qZ (rZ (wZ rg (o_box (v := eDiagram c) rfl rfl (kk := 3) rfl (by decide) (fun g1 => (wZ rg (o_box (v := eDiagram a) rfl rfl (kk := 3) rfl (by decide) (fun g2 => (wZ rg (o_box (v := eOther x) rfl rfl (kk := 4) rfl (by decide) (fun g3 => (asZ (.bool false) rfl (nZ (qZ ?_)))))))))))))
  obtain ⟨J, h, hJ⟩ := h
  refine Vc.join' (σ := ((Bool) × (Nat × Nat × Nat))) (fun y => J y.1) (fun y => envOf [(3, .ptr rg 3 y.2.1 0 0), (4, .ptr rg 4 y.2.2.1 0 0), (5, .ptr rg 5 y.2.2.2 0 0), (27, .bool y.1)]) (fun y => stL S rg [(3, .arr 3 [eDiagram c], y.2.1), (4, .arr 3 [eDiagram a], y.2.2.1), (5, .arr 4 [eOther x], y.2.2.2)]) (fun y h => ?_) ?_
  · obtain ⟨x1, ⟨g4, g5, g6⟩⟩ := y
    replace h := hJ x1 h
    show Vc _ _ _ _ (envOf [(3, .ptr rg 3 g4 0 0), (4, .ptr rg 4 g5 0 0), (5, .ptr rg 5 g6 0 0), (27, .bool x1)]) (stL S rg [(3, .arr 3 [eDiagram c], g4), (4, .arr 3 [eDiagram a], g5), (5, .arr 4 [eOther x], g6)])
    refine Vc.cond' rfl (fun hb => ?_) (fun hb => ?_)
    · replace h := h.1 hb
      refine qZ (rZ (wZ rg (o_call (us := []) rfl (vn) (law16_awake_ctr h fun r h => (asZ (.bool r) rfl (nZ ?_))))))
      refine Vc.ret' ?_
      refine res_tmp (v := .bool r) rfl (res_nil ?_)
      show Gives _ (.bool r) _
      exact gives_out hrg (VW.refl _) (hQ _ h)
    replace h := h.2 hb
    refine Vc.skip' ?_
    refine qZ (rZ (wZ rg (o_loadBA (atL (k := 3) rfl) sz25 (by decide) ag25 rfl rfl (v := eDiagram c) rfl (wZ rg (o_loadBA (atL (k := 4) rfl) sz25 (by decide) ag25 rfl rfl (v := eDiagram a) rfl (wZ rg (o_faP td51 rfl rfl (by rw [sz25]; decide) rfl (wZ rg (o_loadBA (atL (k := 5) rfl) sz25 (by decide) ag25 rfl rfl (v := eDiagram x.D) rfl ?_)))))))))
    refine wZ rg (o_call (us := [eDiagram c, eDiagram a, eDiagram x.D]) rfl (vl' vr (vl' vr (vl' vr (vn)))) (algebra_Choose_ctr h fun r1 r2 h => (mvZ (.tuple [eDiagram r1, eErr 83 r2]) rfl (wZ rg (o_extract (v := eDiagram r1) rfl rfl rfl (wZ rg (o_extract (v := eErr 83 r2) rfl rfl rfl (wZ rg (o_alloc zav25 ok25 (kk := 3) rfl (fun g7 => ?_))))))))))
    refine wZ rg (o_storeB (atL (k := 7) rfl) sz25 (by decide) rfl (w := eDiagram r1) rfl rfl rfl (v := eDiagram r1) rfl setL (asZ (eErr 83 r2) rfl (nZ (qZ (rZ (wZ rg (o_loadBA (atL (k := 3) rfl) sz25 (by decide) ag25 rfl rfl (v := eDiagram c) rfl (wZ rg (o_faP td51 rfl rfl (by rw [sz3]; decide) rfl (wZ rg (o_loadB1 (atL (k := 5) rfl) sz3 ag3 rfl rfl (v := .int .i64 x.I) rfl ?_)))))))))))
    refine wZ rg (o_loadBA (atL (k := 4) rfl) sz25 (by decide) ag25 rfl rfl (v := eDiagram a) rfl (wZ rg (o_call (us := [eDiagram c, AV.int .i64 x.I, eDiagram a]) rfl (vl' vr (vl' vr (vl' vr (vn)))) (algebra_Compose_ctr h fun r3 r4 h => (mvZ (.tuple [eDiagram r3, eErr 83 r4]) rfl (wZ rg (o_extract (v := eDiagram r3) rfl rfl rfl (wZ rg (o_extract (v := eErr 83 r4) rfl rfl rfl ?_)))))))))
    refine wZ rg (o_alloc zav25 ok25 (kk := 3) rfl (fun g8 => (wZ rg (o_storeB (atL (k := 9) rfl) sz25 (by decide) rfl (w := eDiagram r3) rfl rfl rfl (v := eDiagram r3) rfl setL (asZ (eErr 83 r4) rfl (nZ (qZ ?_)))))))
    obtain ⟨one, hc, h⟩ := h
    obtain ⟨two, hc1, h⟩ := h
    refine Vc.drawn' mixed rg (usOf [(4, plc), (5, pc (.int .i64 one)), (8, plc), (9, pc (.int .i64 two))]) (by kernel_rfl) ?_
    refine dL (E := ([(rg, 3)], [])) rfl rfl (by simp) (cfn) (o_loadBA (atL (k := 3) rfl) sz25 (by decide) ag25 rfl rfl (v := eDiagram c) rfl (dL (E := ([(rg, 4)], [])) rfl rfl (by simp) (cfa (by simp [apartE]) (cfn)) (o_loadBA (atL (k := 4) rfl) sz25 (by decide) ag25 rfl rfl (v := eDiagram a) rfl (dP rfl rfl (o_faP td51 rfl rfl (by rw [sz25]; decide) rfl ?_)))))
    refine dL (E := ([(rg, 5)], [])) rfl rfl (by simp) (cfa (by simp [apartE]) (cfa (by simp [apartE]) (cfn))) (o_loadBA (atL (k := 5) rfl) sz25 (by decide) ag25 rfl rfl (v := eDiagram x.D) rfl ?_)
    refine dB rfl td142 ok25 zav25 (es := [eDiagram c, eDiagram a, eDiagram x.D]) rfl (kk := 3) rfl rfl rfl rfl rfl ?_
    refine dC (vs := [eL eDiagram [c, a, x.D]]) rfl (vl' vr (vn)) (fun _ => ref16_Check_ctr hc (fun _ hr => ⟨by rw [hr], rfl⟩)) rfl ?_
    refine dL (E := ([(rg, 3)], [])) rfl rfl (by simp) (cfa (by simp [apartE]) (cfa (by simp [apartE]) (cfa (by simp [apartE]) (cfn)))) (o_loadBA (atL (k := 3) rfl) sz25 (by decide) ag25 rfl rfl (v := eDiagram c) rfl ?_)
    refine dL (E := ([(rg, 4)], [])) rfl rfl (by simp) (cfa (by simp [apartE]) (cfa (by simp [apartE]) (cfa (by simp [apartE]) (cfa (by simp [apartE]) (cfn))))) (o_loadBA (atL (k := 4) rfl) sz25 (by decide) ag25 rfl rfl (v := eDiagram a) rfl ?_)
    refine dB rfl td142 ok25 zav25 (es := [eDiagram c, eDiagram a]) rfl (kk := 3) rfl rfl rfl rfl rfl ?_
    refine dC (vs := [eL eDiagram [c, a]]) rfl (vl' vr (vn)) (fun _ => ref16_Check_ctr hc1 (fun _ hr => ⟨by rw [hr], rfl⟩)) rfl ?_
    refine dP rfl rfl (o_assign (v := .int .i64 one) rfl (dP rfl rfl (o_assign (v := .int .i64 two) rfl (dN ?_))))
    obtain ⟨J, h, hJ⟩ := h
    refine Vc.join' (σ := ((Int) × (Nat × Nat × Nat × Nat × Nat))) (fun y => J y.1) (fun y => envOf [(3, .ptr rg 3 y.2.1 0 0), (4, .ptr rg 4 y.2.2.1 0 0), (5, .ptr rg 5 y.2.2.2.1 0 0), (7, .ptr rg 7 y.2.2.2.2.1 0 0), (8, eErr 83 r2), (9, .ptr rg 9 y.2.2.2.2.2 0 0), (10, eErr 83 r4), (11, .int .i64 one), (12, .int .i64 y.1)]) (fun y => stL S rg [(3, .arr 3 [eDiagram c], y.2.1), (4, .arr 3 [eDiagram a], y.2.2.1), (5, .arr 4 [eOther x], y.2.2.2.1), (7, .arr 3 [eDiagram r1], y.2.2.2.2.1), (9, .arr 3 [eDiagram r3], y.2.2.2.2.2)]) (fun y h => ?_) ?_
    · obtain ⟨two1, ⟨g9, g10, g11, g12, g13⟩⟩ := y
      replace h := hJ two1 h
      show Vc _ _ _ _ (envOf [(3, .ptr rg 3 g9 0 0), (4, .ptr rg 4 g10 0 0), (5, .ptr rg 5 g11 0 0), (7, .ptr rg 7 g12 0 0), (8, eErr 83 r2), (9, .ptr rg 9 g13 0 0), (10, eErr 83 r4), (11, .int .i64 one), (12, .int .i64 two1)]) (stL S rg [(3, .arr 3 [eDiagram c], g9), (4, .arr 3 [eDiagram a], g10), (5, .arr 4 [eOther x], g11), (7, .arr 3 [eDiagram r1], g12), (9, .arr 3 [eDiagram r3], g13)])
      obtain ⟨J, h, hJ⟩ := h
      refine Vc.join' (σ := ((Unit) × (Nat × Nat × Nat × Nat × Nat))) (fun y => J y.1) (fun y => envOf [(3, .ptr rg 3 y.2.1 0 0), (4, .ptr rg 4 y.2.2.1 0 0), (5, .ptr rg 5 y.2.2.2.1 0 0), (7, .ptr rg 7 y.2.2.2.2.1 0 0), (8, eErr 83 r2), (9, .ptr rg 9 y.2.2.2.2.2 0 0), (10, eErr 83 r4), (11, .int .i64 one), (12, .int .i64 two1)]) (fun y => stL S rg [(3, .arr 3 [eDiagram c], y.2.1), (4, .arr 3 [eDiagram a], y.2.2.1), (5, .arr 4 [eOther x], y.2.2.2.1), (7, .arr 3 [eDiagram r1], y.2.2.2.2.1), (9, .arr 3 [eDiagram r3], y.2.2.2.2.2)]) (fun y h => ?_) ?_
      · obtain ⟨_, ⟨g14, g15, g16, g17, g18⟩⟩ := y
        replace h := hJ () h
        show Vc _ _ _ _ (envOf [(3, .ptr rg 3 g14 0 0), (4, .ptr rg 4 g15 0 0), (5, .ptr rg 5 g16 0 0), (7, .ptr rg 7 g17 0 0), (8, eErr 83 r2), (9, .ptr rg 9 g18 0 0), (10, eErr 83 r4), (11, .int .i64 one), (12, .int .i64 two1)]) (stL S rg [(3, .arr 3 [eDiagram c], g14), (4, .arr 3 [eDiagram a], g15), (5, .arr 4 [eOther x], g16), (7, .arr 3 [eDiagram r1], g17), (9, .arr 3 [eDiagram r3], g18)])
        obtain ⟨J, h, hJ⟩ := h
        refine Vc.join' (σ := ((Unit) × (Nat × Nat × Nat × Nat))) (fun y => J y.1) (fun y => envOf [(3, .ptr rg 3 y.2.1 0 0), (4, .ptr rg 4 y.2.2.1 0 0), (5, .ptr rg 5 y.2.2.2.1 0 0), (9, .ptr rg 9 y.2.2.2.2 0 0), (10, eErr 83 r4), (12, .int .i64 two1)]) (fun y => stL S rg [(3, .arr 3 [eDiagram c], y.2.1), (4, .arr 3 [eDiagram a], y.2.2.1), (5, .arr 4 [eOther x], y.2.2.2.1), (9, .arr 3 [eDiagram r3], y.2.2.2.2)]) (fun y h => ?_) ?_
        · obtain ⟨_, ⟨g19, g20, g21, g22⟩⟩ := y
          replace h := hJ () h
          show Vc _ _ _ _ (envOf [(3, .ptr rg 3 g19 0 0), (4, .ptr rg 4 g20 0 0), (5, .ptr rg 5 g21 0 0), (9, .ptr rg 9 g22 0 0), (10, eErr 83 r4), (12, .int .i64 two1)]) (stL S rg [(3, .arr 3 [eDiagram c], g19), (4, .arr 3 [eDiagram a], g20), (5, .arr 4 [eOther x], g21), (9, .arr 3 [eDiagram r3], g22)])
          refine qZ ?_
          rcases Bool.eq_false_or_eq_true (two1 != 0) with hb1 | hb1
          · replace h := h.1 hb1
            refine Vc.drawn' mixed rg (fun _ => jcr2) (by kernel_rfl) ?_
            refine dP rfl rfl (o_move (v := .int .i64 two1) rfl (dP rfl rfl (o_neq rfl rfl (dP rfl rfl (o_move (v := .bool (two1 != 0)) rfl ?_)))))
            refine dGF rfl rfl hb1 rfl ?_
            refine dGF rfl rfl rfl rfl ?_
            refine dGF rfl rfl rfl rfl ?_
            refine dGU rfl rfl ?_
            refine dGU rfl rfl ?_
            refine dGU rfl rfl ?_
            refine dGU rfl rfl ?_
            refine dGU rfl rfl ?_
            refine dGU rfl rfl ?_
            refine dGU rfl rfl ?_
            refine dGF rfl rfl rfl rfl ?_
            refine dP rfl rfl (o_pickT rfl rfl (v := .bool true) rfl (dP rfl rfl (o_assign (v := .bool true) rfl (dN ?_))))
            refine Vc.ret' ?_
            refine res_tmp (v := .bool true) rfl (res_nil ?_)
            show Gives _ (.bool true) _
            exact gives_out hrg (VW.refl _) (hQ _ h)
          replace h := h.2 hb1
          rcases Bool.eq_false_or_eq_true (Option.isNone r4) with hb2 | hb2
          · replace h := h.1 hb2
            obtain ⟨r5, hc2, h⟩ := h
            obtain ⟨r6, hc3, h⟩ := h
            refine Vc.drawn' mixed rg (usOf [(11, pc (eDiagram r5)), (12, pc (.bool r6))]) (by kernel_rfl) ?_
            refine dP rfl rfl (o_move (v := .int .i64 two1) rfl (dP rfl rfl (o_neq rfl rfl (dP rfl rfl (o_move (v := .bool (two1 != 0)) rfl ?_)))))
            refine dGT rfl rfl hb1 ?_
            refine dP rfl rfl (o_move (v := eErr 83 r4) rfl ?_)
            refine dGT rfl rfl rfl ?_
            refine dP rfl rfl (o_isnil td29 (E := 83) rfl rfl rfl ?_)
            refine dGT rfl rfl rfl ?_
            refine dP rfl rfl (o_move (v := .bool (Option.isNone r4)) rfl ?_)
            refine dGT rfl rfl hb2 ?_
            refine dL (E := ([(rg, 9)], [])) rfl rfl (by simp) (cfn) (o_loadBA (atL (k := 9) rfl) sz25 (by decide) ag25 rfl rfl (v := eDiagram r3) rfl ?_)
            refine dGT rfl rfl rfl ?_
            refine dL (E := ([(rg, 3)], [])) rfl rfl (by simp) (cfa (by simp [apartE]) (cfn)) (o_loadBA (atL (k := 3) rfl) sz25 (by decide) ag25 rfl rfl (v := eDiagram c) rfl ?_)
            refine dGT rfl rfl rfl ?_
            refine dP rfl rfl (o_faP td51 rfl rfl (by rw [sz3]; decide) rfl ?_)
            refine dGT rfl rfl rfl ?_
            refine dL (E := ([(rg, 5)], [])) rfl rfl (by simp) (cfa (by simp [apartE]) (cfa (by simp [apartE]) (cfn))) (o_loadB1 (atL (k := 5) rfl) sz3 ag3 rfl rfl (v := .int .i64 x.I) rfl ?_)
            refine dGT rfl rfl rfl ?_
            refine dL (E := ([(rg, 4)], [])) rfl rfl (by simp) (cfa (by simp [apartE]) (cfa (by simp [apartE]) (cfa (by simp [apartE]) (cfn)))) (o_loadBA (atL (k := 4) rfl) sz25 (by decide) ag25 rfl rfl (v := eDiagram a) rfl ?_)
            refine dGT rfl rfl rfl ?_
            refine dC (vs := [eDiagram c, AV.int .i64 x.I, eDiagram a]) rfl (vl' vr (vl' vr (vl' vr (vn)))) (fun _ => ref16_Compose_ctr hc2 (fun _ hr => ⟨by rw [hr], rfl⟩)) rfl ?_
            refine dGT rfl rfl rfl ?_
            refine dC (vs := [eDiagram r3, eDiagram r5]) rfl (vl' vr (vl' vr (vn))) (fun _ => base_Diagram_ctr hc3 (fun _ hr => ⟨by rw [hr], rfl⟩)) rfl ?_
            refine dGT rfl rfl rfl ?_
            refine dP rfl rfl (o_pickT rfl rfl (v := .bool r6) rfl (dP rfl rfl (o_pickF rfl rfl (v := .bool r6) rfl (dP rfl rfl (o_assign (v := .bool r6) rfl (dN ?_))))))
            refine Vc.ret' ?_
            refine res_tmp (v := .bool r6) rfl (res_nil ?_)
            show Gives _ (.bool r6) _
            exact gives_out hrg (VW.refl _) (hQ _ h)
          replace h := h.2 hb2
          refine Vc.drawn' mixed rg (fun _ => jcr2) (by kernel_rfl) ?_
          refine dP rfl rfl (o_move (v := .int .i64 two1) rfl (dP rfl rfl (o_neq rfl rfl (dP rfl rfl (o_move (v := .bool (two1 != 0)) rfl ?_)))))
          refine dGT rfl rfl hb1 ?_
          refine dP rfl rfl (o_move (v := eErr 83 r4) rfl ?_)
          refine dGT rfl rfl rfl ?_
          refine dP rfl rfl (o_isnil td29 (E := 83) rfl rfl rfl ?_)
          refine dGT rfl rfl rfl ?_
          refine dP rfl rfl (o_move (v := .bool (Option.isNone r4)) rfl ?_)
          refine dGF rfl rfl hb2 rfl ?_
          refine dGF rfl rfl rfl rfl ?_
          refine dGF rfl rfl rfl rfl ?_
          refine dGF rfl rfl rfl rfl ?_
          refine dGF rfl rfl rfl rfl ?_
          refine dGF rfl rfl rfl rfl ?_
          refine dGF rfl rfl rfl rfl ?_
          refine dGT rfl rfl rfl ?_
          refine dP rfl rfl (o_pickF rfl rfl (v := .bool false) rfl (dP rfl rfl (o_pickF rfl rfl (v := .bool false) rfl (dP rfl rfl (o_assign (v := .bool false) rfl (dN ?_))))))
          refine Vc.ret' ?_
          refine res_tmp (v := .bool false) rfl (res_nil ?_)
          show Gives _ (.bool false) _
          exact gives_out hrg (VW.refl _) (hQ _ h)
        refine qZ ?_
        rcases Bool.eq_false_or_eq_true (one == 0) with hb3 | hb3
        · replace h := h.1 hb3
          rcases Bool.eq_false_or_eq_true (Option.isSome r2) with hb4 | hb4
          · replace h := h.1 hb4
            refine Vc.drawn' mixed rg (fun _ => jcr2) (by kernel_rfl) ?_
            refine dP rfl rfl (o_move (v := .int .i64 one) rfl (dP rfl rfl (o_eql rfl rfl (dP rfl rfl (o_move (v := .bool (one == 0)) rfl ?_)))))
            refine dGT rfl rfl hb3 ?_
            refine dP rfl rfl (o_move (v := eErr 83 r2) rfl ?_)
            refine dGT rfl rfl rfl ?_
            refine dP rfl rfl (o_isnon td29 (E := 83) rfl rfl rfl ?_)
            refine dGT rfl rfl rfl ?_
            refine dP rfl rfl (o_move (v := .bool (Option.isSome r2)) rfl ?_)
            refine dGF rfl rfl hb4 rfl ?_
            refine dGF rfl rfl rfl rfl ?_
            refine dGF rfl rfl rfl rfl ?_
            refine dGF rfl rfl rfl rfl ?_
            refine dGF rfl rfl rfl rfl ?_
            refine dGF rfl rfl rfl rfl ?_
            refine dGF rfl rfl rfl rfl ?_
            refine dGF rfl rfl rfl rfl ?_
            refine dGT rfl rfl rfl ?_
            refine dP rfl rfl (o_pickT rfl rfl (v := .bool true) rfl (dP rfl rfl (o_pickT rfl rfl (v := .bool true) rfl (dN ?_))))
            refine Vc.cond' rfl (fun _ => ?_) (fun hb => Bool.noConfusion hb)
            refine qZ (rZ (asZ (.bool false) rfl (nZ ?_)))
            refine Vc.ret' ?_
            refine res_tmp (v := .bool false) rfl (res_nil ?_)
            show Gives _ (.bool false) _
            exact gives_out hrg (VW.refl _) (hQ _ h)
          replace h := h.2 hb4
          obtain ⟨r7, hc4, h⟩ := h
          obtain ⟨r8, hc5, h⟩ := h
          refine Vc.drawn' mixed rg (usOf [(11, pc (eDiagram r7)), (12, pc (.bool r8))]) (by kernel_rfl) ?_
          refine dP rfl rfl (o_move (v := .int .i64 one) rfl (dP rfl rfl (o_eql rfl rfl (dP rfl rfl (o_move (v := .bool (one == 0)) rfl ?_)))))
          refine dGT rfl rfl hb3 ?_
          refine dP rfl rfl (o_move (v := eErr 83 r2) rfl ?_)
          refine dGT rfl rfl rfl ?_
          refine dP rfl rfl (o_isnon td29 (E := 83) rfl rfl rfl ?_)
          refine dGT rfl rfl rfl ?_
          refine dP rfl rfl (o_move (v := .bool (Option.isSome r2)) rfl ?_)
          refine dGT rfl rfl hb4 ?_
          refine dL (E := ([(rg, 7)], [])) rfl rfl (by simp) (cfn) (o_loadBA (atL (k := 7) rfl) sz25 (by decide) ag25 rfl rfl (v := eDiagram r1) rfl ?_)
          refine dGT rfl rfl rfl ?_
          refine dL (E := ([(rg, 3)], [])) rfl rfl (by simp) (cfa (by simp [apartE]) (cfn)) (o_loadBA (atL (k := 3) rfl) sz25 (by decide) ag25 rfl rfl (v := eDiagram c) rfl ?_)
          refine dGT rfl rfl rfl ?_
          refine dL (E := ([(rg, 4)], [])) rfl rfl (by simp) (cfa (by simp [apartE]) (cfa (by simp [apartE]) (cfn))) (o_loadBA (atL (k := 4) rfl) sz25 (by decide) ag25 rfl rfl (v := eDiagram a) rfl ?_)
          refine dGT rfl rfl rfl ?_
          refine dP rfl rfl (o_faP td51 rfl rfl (by rw [sz25]; decide) rfl ?_)
          refine dGT rfl rfl rfl ?_
          refine dL (E := ([(rg, 5)], [])) rfl rfl (by simp) (cfa (by simp [apartE]) (cfa (by simp [apartE]) (cfa (by simp [apartE]) (cfn)))) (o_loadBA (atL (k := 5) rfl) sz25 (by decide) ag25 rfl rfl (v := eDiagram x.D) rfl ?_)
          refine dGT rfl rfl rfl ?_
          refine dC (vs := [eDiagram c, eDiagram a, eDiagram x.D]) rfl (vl' vr (vl' vr (vl' vr (vn)))) (fun _ => ref16_Choose_ctr hc4 (fun _ hr => ⟨by rw [hr], rfl⟩)) rfl ?_
          refine dGT rfl rfl rfl ?_
          refine dC (vs := [eDiagram r1, eDiagram r7]) rfl (vl' vr (vl' vr (vn))) (fun _ => base_Diagram_ctr hc5 (fun _ hr => ⟨by rw [hr], rfl⟩)) rfl ?_
          refine dGT rfl rfl rfl ?_
          refine dP rfl rfl (o_not rfl ?_)
          refine dGT rfl rfl rfl ?_
          refine dP rfl rfl (o_pickF rfl rfl (v := .bool (!r8)) rfl (dP rfl rfl (o_pickT rfl rfl (v := .bool (!r8)) rfl (dN ?_))))
          refine Vc.cond' rfl (fun hb5 => ?_) (fun hb5 => ?_)
          · replace h := h.1 hb5
            refine qZ (rZ (asZ (.bool false) rfl (nZ ?_)))
            refine Vc.ret' ?_
            refine res_tmp (v := .bool false) rfl (res_nil ?_)
            show Gives _ (.bool false) _
            exact gives_out hrg (VW.refl _) (hQ _ h)
          replace h := h.2 hb5
          refine Vc.skip' ?_
          exact ⟨((), (g14, g15, g16, g18)), (canon (fc vr (fc vr (fc vr (fc vr (fc vr (fc vr (fn))))))) (sc rfl (sc rfl (sc rfl (sc rfl (sn)))))), h⟩
        replace h := h.2 hb3
        refine Vc.drawn' mixed rg (fun _ => jcr2) (by kernel_rfl) ?_
        refine dP rfl rfl (o_move (v := .int .i64 one) rfl (dP rfl rfl (o_eql rfl rfl (dP rfl rfl (o_move (v := .bool (one == 0)) rfl ?_)))))
        refine dGF rfl rfl hb3 rfl ?_
        refine dGF rfl rfl rfl rfl ?_
        refine dGF rfl rfl rfl rfl ?_
        refine dGU rfl rfl ?_
        refine dGU rfl rfl ?_
        refine dGU rfl rfl ?_
        refine dGU rfl rfl ?_
        refine dGU rfl rfl ?_
        refine dGU rfl rfl ?_
        refine dGU rfl rfl ?_
        refine dGU rfl rfl ?_
        refine dGF rfl rfl rfl rfl ?_
        refine dP rfl rfl (o_pickF rfl rfl (v := .bool false) rfl (dN ?_))
        refine Vc.cond' rfl (fun hb => Bool.noConfusion hb) (fun _ => ?_)
        refine Vc.skip' ?_
        exact ⟨((), (g14, g15, g16, g18)), (canon (fc vr (fc vr (fc vr (fc vr (fc vr (fc vr (fn))))))) (sc rfl (sc rfl (sc rfl (sc rfl (sn)))))), h⟩
      refine qZ (rZ (mvZ (.int .i64 one) rfl (wZ rg (o_neq rfl rfl (mvZ (.bool (one != 0)) rfl ?_)))))
      refine Wl.guard rfl rfl (fun hb6 => ?_) (fun hb6 => ?_)
      · replace h := h.1 hb6
        refine wZ rg (o_loadBA (atL (k := 7) rfl) sz25 (by decide) ag25 rfl rfl (v := eDiagram r1) rfl ?_)
        refine Wl.guardT rfl rfl hb6 ?_
        refine mvZ (eErr 83 r2) rfl ?_
        refine Wl.guardT rfl rfl hb6 ?_
        refine mvZ (.int .i64 one) rfl ?_
        refine Wl.guardT rfl rfl hb6 ?_
        refine wZ rg (o_call (us := [eDiagram r1, eErr 83 r2, AV.int .i64 one]) rfl (vl' vr (vl' vr (vl' vr (vn)))) (law16_none_ctr h fun r9 h => ?_))
        refine Wl.guardT rfl rfl hb6 ?_
        refine wZ rg (o_not rfl (wZ rg (o_pickT rfl hb6 (v := .bool (!r9)) rfl (mvZ (.bool (!r9)) rfl ?_))))
        refine Wl.guard rfl rfl (fun hb7 => ?_) (fun hb7 => ?_)
        · replace h := h.2 hb7
          refine mvZ (.int .i64 two1) rfl ?_
          refine Wl.guardT rfl rfl hb7 ?_
          refine wZ rg (o_neq rfl rfl ?_)
          refine Wl.guardT rfl rfl hb7 ?_
          refine mvZ (.bool (two1 != 0)) rfl ?_
          refine Wl.guard rfl rfl (fun hb8 => ?_) (fun hb8 => ?_)
          · replace h := h.1 hb8
            refine wZ rg (o_loadBA (atL (k := 9) rfl) sz25 (by decide) ag25 rfl rfl (v := eDiagram r3) rfl ?_)
            refine Wl.guardT rfl rfl hb8 ?_
            refine mvZ (eErr 83 r4) rfl ?_
            refine Wl.guardT rfl rfl hb8 ?_
            refine mvZ (.int .i64 two1) rfl ?_
            refine Wl.guardT rfl rfl hb8 ?_
            refine wZ rg (o_call (us := [eDiagram r3, eErr 83 r4, AV.int .i64 two1]) rfl (vl' vr (vl' vr (vl' vr (vn)))) (law16_none_ctr h fun r10 h => ?_))
            refine Wl.guardT rfl rfl hb8 ?_
            refine wZ rg (o_not rfl ?_)
            refine Wl.guardT rfl rfl hb7 ?_
            refine wZ rg (o_pickT rfl hb8 (v := .bool (!r10)) rfl (wZ rg (o_pickF rfl hb7 (v := .bool (!r10)) rfl (nZ ?_))))
            refine Vc.cond' rfl (fun hb9 => ?_) (fun hb9 => ?_)
            · replace h := h.1 hb9
              refine qZ (rZ (asZ (.bool false) rfl (nZ ?_)))
              refine Vc.ret' ?_
              refine res_tmp (v := .bool false) rfl (res_nil ?_)
              show Gives _ (.bool false) _
              exact gives_out hrg (VW.refl _) (hQ _ h)
            replace h := h.2 hb9
            refine Vc.skip' ?_
            exact ⟨((), (g9, g10, g11, g12, g13)), (canon (fc vr (fc vr (fc vr (fc vr (fc vr (fc vr (fc vr (fc vr (fc vr (fn)))))))))) (sc rfl (sc rfl (sc rfl (sc rfl (sc rfl (sn))))))), h⟩
          replace h := h.2 hb8
          refine Wl.guardF rfl rfl hb8 rfl ?_
          refine Wl.guardF rfl rfl hb8 rfl ?_
          refine Wl.guardF rfl rfl hb8 rfl ?_
          refine Wl.guardF rfl rfl hb8 rfl ?_
          refine Wl.guardT rfl rfl hb7 ?_
          refine wZ rg (o_pickF rfl hb8 (v := .bool false) rfl (wZ rg (o_pickF rfl hb7 (v := .bool false) rfl (nZ ?_))))
          refine Vc.cond' rfl (fun hb => Bool.noConfusion hb) (fun _ => ?_)
          refine Vc.skip' ?_
          exact ⟨((), (g9, g10, g11, g12, g13)), (canon (fc vr (fc vr (fc vr (fc vr (fc vr (fc vr (fc vr (fc vr (fc vr (fn)))))))))) (sc rfl (sc rfl (sc rfl (sc rfl (sc rfl (sn))))))), h⟩
        replace h := h.1 hb7
        refine Wl.guardF rfl rfl hb7 rfl ?_
        refine Wl.guardF rfl rfl hb7 rfl ?_
        refine Wl.guardU rfl rfl ?_
        refine Wl.guardU rfl rfl ?_
        refine Wl.guardU rfl rfl ?_
        refine Wl.guardU rfl rfl ?_
        refine Wl.guardU rfl rfl ?_
        refine Wl.guardF rfl rfl hb7 rfl ?_
        refine wZ rg (o_pickT rfl hb7 (v := .bool true) rfl (nZ ?_))
        refine Vc.cond' rfl (fun _ => ?_) (fun hb => Bool.noConfusion hb)
        refine qZ (rZ (asZ (.bool false) rfl (nZ ?_)))
        refine Vc.ret' ?_
        refine res_tmp (v := .bool false) rfl (res_nil ?_)
        show Gives _ (.bool false) _
        exact gives_out hrg (VW.refl _) (hQ _ h)
      replace h := h.2 hb6
      refine Wl.guardF rfl rfl hb6 rfl ?_
      refine Wl.guardF rfl rfl hb6 rfl ?_
      refine Wl.guardF rfl rfl hb6 rfl ?_
      refine Wl.guardF rfl rfl hb6 rfl ?_
      refine wZ rg (o_pickF rfl hb6 (v := .bool false) rfl (mvZ (.bool false) rfl ?_))
      refine Wl.guardT rfl rfl rfl ?_
      refine mvZ (.int .i64 two1) rfl ?_
      refine Wl.guardT rfl rfl rfl ?_
      refine wZ rg (o_neq rfl rfl ?_)
      refine Wl.guardT rfl rfl rfl ?_
      refine mvZ (.bool (two1 != 0)) rfl ?_
      refine Wl.guard rfl rfl (fun hb10 => ?_) (fun hb10 => ?_)
      · replace h := h.1 hb10
        refine wZ rg (o_loadBA (atL (k := 9) rfl) sz25 (by decide) ag25 rfl rfl (v := eDiagram r3) rfl ?_)
        refine Wl.guardT rfl rfl hb10 ?_
        refine mvZ (eErr 83 r4) rfl ?_
        refine Wl.guardT rfl rfl hb10 ?_
        refine mvZ (.int .i64 two1) rfl ?_
        refine Wl.guardT rfl rfl hb10 ?_
        refine wZ rg (o_call (us := [eDiagram r3, eErr 83 r4, AV.int .i64 two1]) rfl (vl' vr (vl' vr (vl' vr (vn)))) (law16_none_ctr h fun r11 h => ?_))
        refine Wl.guardT rfl rfl hb10 ?_
        refine wZ rg (o_not rfl ?_)
        refine Wl.guardT rfl rfl rfl ?_
        refine wZ rg (o_pickT rfl hb10 (v := .bool (!r11)) rfl (wZ rg (o_pickF rfl rfl (v := .bool (!r11)) rfl (nZ ?_))))
        refine Vc.cond' rfl (fun hb11 => ?_) (fun hb11 => ?_)
        · replace h := h.1 hb11
          refine qZ (rZ (asZ (.bool false) rfl (nZ ?_)))
          refine Vc.ret' ?_
          refine res_tmp (v := .bool false) rfl (res_nil ?_)
          show Gives _ (.bool false) _
          exact gives_out hrg (VW.refl _) (hQ _ h)
        replace h := h.2 hb11
        refine Vc.skip' ?_
        exact ⟨((), (g9, g10, g11, g12, g13)), (canon (fc vr (fc vr (fc vr (fc vr (fc vr (fc vr (fc vr (fc vr (fc vr (fn)))))))))) (sc rfl (sc rfl (sc rfl (sc rfl (sc rfl (sn))))))), h⟩
      replace h := h.2 hb10
      refine Wl.guardF rfl rfl hb10 rfl ?_
      refine Wl.guardF rfl rfl hb10 rfl ?_
      refine Wl.guardF rfl rfl hb10 rfl ?_
      refine Wl.guardF rfl rfl hb10 rfl ?_
      refine Wl.guardT rfl rfl rfl ?_
      refine wZ rg (o_pickF rfl hb10 (v := .bool false) rfl (wZ rg (o_pickF rfl rfl (v := .bool false) rfl (nZ ?_))))
      refine Vc.cond' rfl (fun hb => Bool.noConfusion hb) (fun _ => ?_)
      refine Vc.skip' ?_
      exact ⟨((), (g9, g10, g11, g12, g13)), (canon (fc vr (fc vr (fc vr (fc vr (fc vr (fc vr (fc vr (fc vr (fc vr (fn)))))))))) (sc rfl (sc rfl (sc rfl (sc rfl (sc rfl (sn))))))), h⟩
    refine qZ (rZ (mvZ (.int .i64 two) rfl (wZ rg (o_eql rfl rfl (mvZ (.bool (two == 0)) rfl ?_)))))
    refine Wl.guard rfl rfl (fun hb12 => ?_) (fun hb12 => ?_)
    · replace h := h.1 hb12
      refine wZ rg (o_faP td51 rfl rfl (by rw [sz3]; decide) rfl ?_)
      refine Wl.guardT rfl rfl hb12 ?_
      refine wZ rg (o_loadB1 (atL (k := 5) rfl) sz3 ag3 rfl rfl (v := .int .i64 x.I) rfl ?_)
      refine Wl.guardT rfl rfl hb12 ?_
      refine wZ rg (o_lss rfl rfl ?_)
      refine Wl.guardT rfl rfl hb12 ?_
      refine mvZ (.bool (decide (x.I < 0))) rfl ?_
      refine Wl.guard rfl rfl (fun hb13 => ?_) (fun hb13 => ?_)
      · replace h := h.2 hb13
        refine wZ rg (o_faP td51 rfl rfl (by rw [sz3]; decide) rfl ?_)
        refine Wl.guardT rfl rfl hb13 ?_
        refine wZ rg (o_loadB1 (atL (k := 5) rfl) sz3 ag3 rfl rfl (v := .int .i64 x.I) rfl ?_)
        refine Wl.guardT rfl rfl hb13 ?_
        refine wZ rg (o_faP td25 rfl rfl (by rw [sz22]; decide) rfl ?_)
        refine Wl.guardT rfl rfl hb13 ?_
        refine wZ rg (o_loadB1 (atL (k := 3) rfl) sz22 ag22 rfl rfl (v := eL (AV.int .i64) c.Order) rfl ?_)
        refine Wl.guardT rfl rfl hb13 ?_
        refine wZ rg (o_len td22 rfl ?_)
        refine Wl.guardT rfl rfl hb13 ?_
        refine wZ rg (o_geq rfl rfl ?_)
        refine Wl.guardT rfl rfl hb12 ?_
        refine wZ rg (o_pickF rfl hb13 (v := .bool (decide ((c.Order.length : Int) ≤ x.I))) rfl (wZ rg (o_pickT rfl hb12 (v := .bool (decide ((c.Order.length : Int) ≤ x.I))) rfl (nZ ?_))))
        refine Vc.cond' rfl (fun hb14 => ?_) (fun hb14 => ?_)
        · replace h := h.1 hb14
          refine rZ ?_
          refine asZ (.int .i64 10) rfl (nZ ?_)
          exact ⟨(10, (g4, g5, g6, g7, g8)), (canon (fc vr (fc vr (fc vr (fc vr (fc vr (fc vr (fc vr (fc vr (fc vr (fn)))))))))) (sc rfl (sc rfl (sc rfl (sc rfl (sc rfl (sn))))))), h⟩
        replace h := h.2 hb14
        refine Vc.skip' ?_
        exact ⟨(two, (g4, g5, g6, g7, g8)), (canon (fc vr (fc vr (fc vr (fc vr (fc vr (fc vr (fc vr (fc vr (fc vr (fn)))))))))) (sc rfl (sc rfl (sc rfl (sc rfl (sc rfl (sn))))))), h⟩
      replace h := h.1 hb13
      refine Wl.guardF rfl rfl hb13 rfl ?_
      refine Wl.guardF rfl rfl hb13 rfl ?_
      refine Wl.guardF rfl rfl hb13 rfl ?_
      refine Wl.guardF rfl rfl hb13 rfl ?_
      refine Wl.guardF rfl rfl hb13 rfl ?_
      refine Wl.guardT rfl rfl hb12 ?_
      refine wZ rg (o_pickT rfl hb13 (v := .bool true) rfl (wZ rg (o_pickT rfl hb12 (v := .bool true) rfl (nZ ?_))))
      refine Vc.cond' rfl (fun _ => ?_) (fun hb => Bool.noConfusion hb)
      refine rZ ?_
      refine asZ (.int .i64 10) rfl (nZ ?_)
      exact ⟨(10, (g4, g5, g6, g7, g8)), (canon (fc vr (fc vr (fc vr (fc vr (fc vr (fc vr (fc vr (fc vr (fc vr (fn)))))))))) (sc rfl (sc rfl (sc rfl (sc rfl (sc rfl (sn))))))), h⟩
    replace h := h.2 hb12
    refine Wl.guardF rfl rfl hb12 rfl ?_
    refine Wl.guardF rfl rfl hb12 rfl ?_
    refine Wl.guardF rfl rfl hb12 rfl ?_
    refine Wl.guardU rfl rfl ?_
    refine Wl.guardU rfl rfl ?_
    refine Wl.guardU rfl rfl ?_
    refine Wl.guardU rfl rfl ?_
    refine Wl.guardU rfl rfl ?_
    refine Wl.guardU rfl rfl ?_
    refine Wl.guardF rfl rfl hb12 rfl ?_
    refine wZ rg (o_pickF rfl hb12 (v := .bool false) rfl (nZ ?_))
    refine Vc.cond' rfl (fun hb => Bool.noConfusion hb) (fun _ => ?_)
    refine Vc.skip' ?_
    exact ⟨(two, (g4, g5, g6, g7, g8)), (canon (fc vr (fc vr (fc vr (fc vr (fc vr (fc vr (fc vr (fc vr (fc vr (fn)))))))))) (sc rfl (sc rfl (sc rfl (sc rfl (sc rfl (sn))))))), h⟩
  refine rZ ?_
  refine wZ rg (o_call (us := []) rfl (vn) (law16_awake_ctr h fun r12 h => (wZ rg (o_not rfl (mvZ (.bool (!r12)) rfl ?_)))))
  refine Wl.guard rfl rfl (fun hb15 => ?_) (fun hb15 => ?_)
  · replace h := h.2 hb15
    refine wZ rg (o_loadBA (atL (k := 3) rfl) sz25 (by decide) ag25 rfl rfl (v := eDiagram c) rfl ?_)
    refine Wl.guardT rfl rfl hb15 ?_
    refine wZ rg (o_call (us := [eDiagram c]) rfl (vl' vr (vn)) (law16_large_ctr h fun r13 h => (wZ rg (o_pickF rfl hb15 (v := .bool r13) rfl (mvZ (.bool r13) rfl ?_)))))
    refine Wl.guard rfl rfl (fun hb16 => ?_) (fun hb16 => ?_)
    · replace h := h.2 hb16
      refine wZ rg (o_loadBA (atL (k := 4) rfl) sz25 (by decide) ag25 rfl rfl (v := eDiagram a) rfl ?_)
      refine Wl.guardT rfl rfl hb16 ?_
      refine wZ rg (o_call (us := [eDiagram a]) rfl (vl' vr (vn)) (law16_large_ctr h fun r14 h => (wZ rg (o_pickF rfl hb16 (v := .bool r14) rfl (mvZ (.bool r14) rfl ?_)))))
      refine Wl.guard rfl rfl (fun hb17 => ?_) (fun hb17 => ?_)
      · replace h := h.2 hb17
        refine wZ rg (o_faP td51 rfl rfl (by rw [sz25]; decide) rfl ?_)
        refine Wl.guardT rfl rfl hb17 ?_
        refine wZ rg (o_loadBA (atL (k := 5) rfl) sz25 (by decide) ag25 rfl rfl (v := eDiagram x.D) rfl ?_)
        refine Wl.guardT rfl rfl hb17 ?_
        refine wZ rg (o_call (us := [eDiagram x.D]) rfl (vl' vr (vn)) (law16_large_ctr h fun r15 h => (wZ rg (o_pickF rfl hb17 (v := .bool r15) rfl (nZ ?_)))))
        exact ⟨(r15, (g1, g2, g3)), (canon (fc vr (fc vr (fc vr (fc vr (fn))))) (sc rfl (sc rfl (sc rfl (sn))))), h⟩
      replace h := h.1 hb17
      refine Wl.guardF rfl rfl hb17 rfl ?_
      refine Wl.guardF rfl rfl hb17 rfl ?_
      refine wZ rg (o_pickT rfl hb17 (v := .bool true) rfl (nZ ?_))
      exact ⟨(true, (g1, g2, g3)), (canon (fc vr (fc vr (fc vr (fc vr (fn))))) (sc rfl (sc rfl (sc rfl (sn))))), h⟩
    replace h := h.1 hb16
    refine Wl.guardF rfl rfl hb16 rfl ?_
    refine wZ rg (o_pickT rfl hb16 (v := .bool true) rfl (mvZ (.bool true) rfl ?_))
    refine Wl.guardF rfl rfl rfl rfl ?_
    refine Wl.guardF rfl rfl rfl rfl ?_
    refine Wl.guardF rfl rfl rfl rfl ?_
    refine wZ rg (o_pickT rfl rfl (v := .bool true) rfl (nZ ?_))
    exact ⟨(true, (g1, g2, g3)), (canon (fc vr (fc vr (fc vr (fc vr (fn))))) (sc rfl (sc rfl (sc rfl (sn))))), h⟩
  replace h := h.1 hb15
  refine Wl.guardF rfl rfl hb15 rfl ?_
  refine wZ rg (o_pickT rfl hb15 (v := .bool true) rfl (mvZ (.bool true) rfl ?_))
  refine Wl.guardF rfl rfl rfl rfl ?_
  refine Wl.guardF rfl rfl rfl rfl ?_
  refine wZ rg (o_pickT rfl rfl (v := .bool true) rfl (mvZ (.bool true) rfl ?_))
  refine Wl.guardF rfl rfl rfl rfl ?_
  refine Wl.guardF rfl rfl rfl rfl ?_
  refine Wl.guardF rfl rfl rfl rfl ?_
  refine wZ rg (o_pickT rfl rfl (v := .bool true) rfl (nZ ?_))
  exact ⟨(true, (g1, g2, g3)), (canon (fc vr (fc vr (fc vr (fc vr (fn))))) (sc rfl (sc rfl (sc rfl (sn))))), h⟩
end Go.Proofs.Ytllegjdggcmgaaa
