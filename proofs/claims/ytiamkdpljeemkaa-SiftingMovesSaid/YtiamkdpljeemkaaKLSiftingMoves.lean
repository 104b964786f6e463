/- Walks of functions. Conditions: none. -/
import Derived.Test.YtiamkdpljeemkaaWa
import Derived.Test.YtiamkdpljeemkaaGgTy
import Derived.Test.YtiamkdpljeemkaaK1
import Derived.Test.YtiamkdpljeemkaaK3
import Derived.Test.YtiamkdpljeemkaaK4
import Derived.Test.YtiamkdpljeemkaaK11
import Derived.Test.YtiamkdpljeemkaaK12
import Derived.Test.YtiamkdpljeemkaaK5
import Derived.Test.YtiamkdpljeemkaaK6
/- Walks of functions. Conditions: none. -/
namespace Go.Proofs.Ytiamkdpljeemkaa
open Go.Gg
set_option maxRecDepth 100000
set_option maxHeartbeats 4000000 in
theorem law17_SiftingMoves_ctr {d : GDiagram} {event : Int} {place : Int} {Q : Bool → Prop} {S : St} {R : AV → St → Prop} (h : law17_SiftingMoves_W d event place Q) (hQ : ∀ r1, Q r1 → R (AV.bool r1) S) :
    Ctr Try.prog 15 [eDiagram d, AV.int .i64 event, AV.int .i64 place] S R := by
  unfold law17_SiftingMoves_W at h
  refine enterT Try.func15 rfl Try.ntmps15 Try.results15 (by kernel_rfl) (fun rg hrg => ?_)
  refine qZ (rZ (wZ rg (o_box (v := eDiagram d) rfl rfl (kk := 3) rfl (by decide) (fun g1 => (asZ (.bool false) rfl (nZ (qZ ?_)))))))
  obtain ⟨J, h, hJ⟩ := h
  refine Vc.join' (σ := ((Bool) × (Nat))) (fun y => J y.1) (fun y => envOf [(1, .int .i64 event), (2, .int .i64 place), (3, .ptr rg 3 y.2 0 0), (19, .bool y.1)]) (fun y => stL S rg [(3, .arr 3 [eDiagram d], y.2)]) (fun y h => ?_) ?_
  · obtain ⟨x, g2⟩ := y
    replace h := hJ x h
    show Vc _ _ _ _ (envOf [(1, .int .i64 event), (2, .int .i64 place), (3, .ptr rg 3 g2 0 0), (19, .bool x)]) (stL S rg [(3, .arr 3 [eDiagram d], g2)])
    refine Vc.cond' rfl (fun hb => ?_) (fun hb => ?_)
    · replace h := h.1 hb
      refine qZ (rZ (wZ rg (o_call (us := []) rfl (vn) (law17_awake_ctr h fun r h => (asZ (.bool r) rfl (nZ ?_))))))
      refine Vc.ret' ?_
      refine res_tmp (v := .bool r) rfl (res_nil ?_)
      show Gives _ (.bool r) _
      exact gives_out hrg (VW.refl _) (hQ _ h)
    replace h := h.2 hb
    refine Vc.skip' ?_
    refine qZ (rZ (wZ rg (o_loadBA (atL (k := 3) rfl) sz30 (by decide) ag30 rfl rfl (v := eDiagram d) rfl (mvZ (.int .i64 place) rfl (wZ rg (o_call (us := [eDiagram d, AV.int .i64 place]) rfl (vl' vr (vl' vr (vn))) (sifting_Swap_ctr h fun r1 r2 h => (mvZ (.tuple [eDiagram r1, eErr 73 r2]) rfl (wZ rg (o_extract (v := eDiagram r1) rfl rfl rfl (wZ rg (o_extract (v := eErr 73 r2) rfl rfl rfl ?_))))))))))))
    refine wZ rg (o_alloc zav30 ok30 (kk := 3) rfl (fun g3 => (wZ rg (o_storeB (atL (k := 7) rfl) sz30 (by decide) rfl (w := eDiagram r1) rfl rfl rfl (v := eDiagram r1) rfl setL (asZ (eErr 73 r2) rfl (nZ (qZ (rZ (wZ rg (o_loadBA (atL (k := 3) rfl) sz30 (by decide) ag30 rfl rfl (v := eDiagram d) rfl (mvZ (.int .i64 event) rfl (mvZ (.int .i64 place) rfl ?_))))))))))))
    refine wZ rg (o_call (us := [eDiagram d, AV.int .i64 event, AV.int .i64 place]) rfl (vl' vr (vl' vr (vl' vr (vn)))) (sifting_Move_ctr h fun r3 r4 h => (mvZ (.tuple [eDiagram r3, eErr 73 r4]) rfl (wZ rg (o_extract (v := eDiagram r3) rfl rfl rfl (wZ rg (o_extract (v := eErr 73 r4) rfl rfl rfl (wZ rg (o_alloc zav30 ok30 (kk := 3) rfl (fun g4 => ?_))))))))))
    refine wZ rg (o_storeB (atL (k := 9) rfl) sz30 (by decide) rfl (w := eDiagram r3) rfl rfl rfl (v := eDiagram r3) rfl setL (asZ (eErr 73 r4) rfl (nZ (qZ (rZ (wZ rg (o_loadBA (atL (k := 3) rfl) sz30 (by decide) ag30 rfl rfl (v := eDiagram d) rfl (wZ rg (o_call (us := [eDiagram d]) rfl (vl' vr (vn)) (ref15_Check_ctr h fun one h => (asZ (.int .i64 one) rfl (nZ (qZ (rZ (mvZ (.int .i64 one) rfl ?_)))))))))))))))
    refine asZ (.int .i64 one) rfl (nZ (qZ (rZ (wZ rg (o_faP td30 rfl rfl (by rw [sz25]; decide) rfl (wZ rg (o_loadB1 (atL (k := 3) rfl) sz25 ag25 rfl rfl (v := eL (AV.int .i64) d.Order) rfl (wZ rg (o_len td25 rfl (asZ (.int .i64 (d.Order.length : Int)) rfl (nZ ?_)))))))))))
    obtain ⟨J, h, hJ⟩ := h
    refine Vc.join' (σ := ((Int) × (Nat × Nat × Nat))) (fun y => J y.1) (fun y => envOf [(1, .int .i64 event), (2, .int .i64 place), (3, .ptr rg 3 y.2.1 0 0), (7, .ptr rg 7 y.2.2.1 0 0), (8, eErr 73 r2), (9, .ptr rg 9 y.2.2.2 0 0), (10, eErr 73 r4), (11, .int .i64 y.1), (12, .int .i64 one), (13, .int .i64 (d.Order.length : Int))]) (fun y => stL S rg [(3, .arr 3 [eDiagram d], y.2.1), (7, .arr 3 [eDiagram r1], y.2.2.1), (9, .arr 3 [eDiagram r3], y.2.2.2)]) (fun y h => ?_) ?_
    · obtain ⟨one1, ⟨g5, g6, g7⟩⟩ := y
      replace h := hJ one1 h
      show Vc _ _ _ _ (envOf [(1, .int .i64 event), (2, .int .i64 place), (3, .ptr rg 3 g5 0 0), (7, .ptr rg 7 g6 0 0), (8, eErr 73 r2), (9, .ptr rg 9 g7 0 0), (10, eErr 73 r4), (11, .int .i64 one1), (12, .int .i64 one), (13, .int .i64 (d.Order.length : Int))]) (stL S rg [(3, .arr 3 [eDiagram d], g5), (7, .arr 3 [eDiagram r1], g6), (9, .arr 3 [eDiagram r3], g7)])
      obtain ⟨J, h, hJ⟩ := h
      refine Vc.join' (σ := ((Int) × (Nat × Nat × Nat))) (fun y => J y.1) (fun y => envOf [(1, .int .i64 event), (2, .int .i64 place), (3, .ptr rg 3 y.2.1 0 0), (7, .ptr rg 7 y.2.2.1 0 0), (8, eErr 73 r2), (9, .ptr rg 9 y.2.2.2 0 0), (10, eErr 73 r4), (11, .int .i64 one1), (12, .int .i64 y.1)]) (fun y => stL S rg [(3, .arr 3 [eDiagram d], y.2.1), (7, .arr 3 [eDiagram r1], y.2.2.1), (9, .arr 3 [eDiagram r3], y.2.2.2)]) (fun y h => ?_) ?_
      · obtain ⟨two, ⟨g8, g9, g10⟩⟩ := y
        replace h := hJ two h
        show Vc _ _ _ _ (envOf [(1, .int .i64 event), (2, .int .i64 place), (3, .ptr rg 3 g8 0 0), (7, .ptr rg 7 g9 0 0), (8, eErr 73 r2), (9, .ptr rg 9 g10 0 0), (10, eErr 73 r4), (11, .int .i64 one1), (12, .int .i64 two)]) (stL S rg [(3, .arr 3 [eDiagram d], g8), (7, .arr 3 [eDiagram r1], g9), (9, .arr 3 [eDiagram r3], g10)])
        obtain ⟨J, h, hJ⟩ := h
        refine Vc.join' (σ := ((Unit) × (Nat × Nat × Nat))) (fun y => J y.1) (fun y => envOf [(1, .int .i64 event), (2, .int .i64 place), (3, .ptr rg 3 y.2.1 0 0), (7, .ptr rg 7 y.2.2.1 0 0), (8, eErr 73 r2), (9, .ptr rg 9 y.2.2.2 0 0), (10, eErr 73 r4), (11, .int .i64 one1), (12, .int .i64 two)]) (fun y => stL S rg [(3, .arr 3 [eDiagram d], y.2.1), (7, .arr 3 [eDiagram r1], y.2.2.1), (9, .arr 3 [eDiagram r3], y.2.2.2)]) (fun y h => ?_) ?_
        · obtain ⟨_, ⟨g11, g12, g13⟩⟩ := y
          replace h := hJ () h
          show Vc _ _ _ _ (envOf [(1, .int .i64 event), (2, .int .i64 place), (3, .ptr rg 3 g11 0 0), (7, .ptr rg 7 g12 0 0), (8, eErr 73 r2), (9, .ptr rg 9 g13 0 0), (10, eErr 73 r4), (11, .int .i64 one1), (12, .int .i64 two)]) (stL S rg [(3, .arr 3 [eDiagram d], g11), (7, .arr 3 [eDiagram r1], g12), (9, .arr 3 [eDiagram r3], g13)])
          obtain ⟨J, h, hJ⟩ := h
          refine Vc.join' (σ := ((Unit) × (Nat × Nat))) (fun y => J y.1) (fun y => envOf [(1, .int .i64 event), (2, .int .i64 place), (3, .ptr rg 3 y.2.1 0 0), (9, .ptr rg 9 y.2.2 0 0), (10, eErr 73 r4), (12, .int .i64 two)]) (fun y => stL S rg [(3, .arr 3 [eDiagram d], y.2.1), (9, .arr 3 [eDiagram r3], y.2.2)]) (fun y h => ?_) ?_
          · obtain ⟨_, ⟨g14, g15⟩⟩ := y
            replace h := hJ () h
            show Vc _ _ _ _ (envOf [(1, .int .i64 event), (2, .int .i64 place), (3, .ptr rg 3 g14 0 0), (9, .ptr rg 9 g15 0 0), (10, eErr 73 r4), (12, .int .i64 two)]) (stL S rg [(3, .arr 3 [eDiagram d], g14), (9, .arr 3 [eDiagram r3], g15)])
            refine qZ ?_
            rcases Bool.eq_false_or_eq_true (two != 0) with hb1 | hb1
            · replace h := h.1 hb1
              refine Vc.drawn' mixed rg (fun _ => jcr2) (by kernel_rfl) ?_
              refine dP rfl rfl (o_move (v := .int .i64 two) rfl (dP rfl rfl (o_neq rfl rfl (dP rfl rfl (o_move (v := .bool (two != 0)) rfl ?_)))))
              refine dGF rfl rfl hb1 rfl ?_
              refine dGF rfl rfl rfl rfl ?_
              refine dGF rfl rfl rfl rfl ?_
              refine dGU rfl rfl ?_
              refine dGU rfl rfl ?_
              refine dGU rfl rfl ?_
              refine dGU rfl rfl ?_
              refine dGU rfl rfl ?_
              refine dGU rfl rfl ?_
              refine dGF rfl rfl rfl rfl ?_
              refine dP rfl rfl (o_pickT rfl rfl (v := .bool true) rfl (dP rfl rfl (o_assign (v := .bool true) rfl (dN ?_))))
              refine Vc.ret' ?_
              refine res_tmp (v := .bool true) rfl (res_nil ?_)
              show Gives _ (.bool true) _
              exact gives_out hrg (VW.refl _) (hQ _ h)
            replace h := h.2 hb1
            rcases Bool.eq_false_or_eq_true (Option.isNone r4) with hb2 | hb2
            · replace h := h.1 hb2
              obtain ⟨r5, hc, h⟩ := h
              obtain ⟨r6, hc1, h⟩ := h
              refine Vc.drawn' mixed rg (usOf [(10, pc (eDiagram r5)), (11, pc (.bool r6))]) (by kernel_rfl) ?_
              refine dP rfl rfl (o_move (v := .int .i64 two) rfl (dP rfl rfl (o_neq rfl rfl (dP rfl rfl (o_move (v := .bool (two != 0)) rfl ?_)))))
              refine dGT rfl rfl hb1 ?_
              refine dP rfl rfl (o_move (v := eErr 73 r4) rfl ?_)
              refine dGT rfl rfl rfl ?_
              refine dP rfl rfl (o_isnil td32 (E := 73) rfl rfl rfl ?_)
              refine dGT rfl rfl rfl ?_
              refine dP rfl rfl (o_move (v := .bool (Option.isNone r4)) rfl ?_)
              refine dGT rfl rfl hb2 ?_
              refine dL (E := ([(rg, 9)], [])) rfl rfl (by simp) (cfn) (o_loadBA (atL (k := 9) rfl) sz30 (by decide) ag30 rfl rfl (v := eDiagram r3) rfl ?_)
              refine dGT rfl rfl rfl ?_
              refine dL (E := ([(rg, 3)], [])) rfl rfl (by simp) (cfa (by simp [apartE]) (cfn)) (o_loadBA (atL (k := 3) rfl) sz30 (by decide) ag30 rfl rfl (v := eDiagram d) rfl ?_)
              refine dGT rfl rfl rfl ?_
              refine dP rfl rfl (o_move (v := .int .i64 event) rfl ?_)
              refine dGT rfl rfl rfl ?_
              refine dP rfl rfl (o_move (v := .int .i64 place) rfl ?_)
              refine dGT rfl rfl rfl ?_
              refine dC (vs := [eDiagram d, AV.int .i64 event, AV.int .i64 place]) rfl (vl' vr (vl' vr (vl' vr (vn)))) (fun _ => ref17_Move_ctr hc (fun _ hr => ⟨by rw [hr], rfl⟩)) rfl ?_
              refine dGT rfl rfl rfl ?_
              refine dC (vs := [eDiagram r3, eDiagram r5]) rfl (vl' vr (vl' vr (vn))) (fun _ => base_Diagram_ctr hc1 (fun _ hr => ⟨by rw [hr], rfl⟩)) rfl ?_
              refine dGT rfl rfl rfl ?_
              refine dP rfl rfl (o_pickT rfl rfl (v := .bool r6) rfl (dP rfl rfl (o_pickF rfl rfl (v := .bool r6) rfl (dP rfl rfl (o_assign (v := .bool r6) rfl (dN ?_))))))
              refine Vc.ret' ?_
              refine res_tmp (v := .bool r6) rfl (res_nil ?_)
              show Gives _ (.bool r6) _
              exact gives_out hrg (VW.refl _) (hQ _ h)
            replace h := h.2 hb2
            refine Vc.drawn' mixed rg (fun _ => jcr2) (by kernel_rfl) ?_
            refine dP rfl rfl (o_move (v := .int .i64 two) rfl (dP rfl rfl (o_neq rfl rfl (dP rfl rfl (o_move (v := .bool (two != 0)) rfl ?_)))))
            refine dGT rfl rfl hb1 ?_
            refine dP rfl rfl (o_move (v := eErr 73 r4) rfl ?_)
            refine dGT rfl rfl rfl ?_
            refine dP rfl rfl (o_isnil td32 (E := 73) rfl rfl rfl ?_)
            refine dGT rfl rfl rfl ?_
            refine dP rfl rfl (o_move (v := .bool (Option.isNone r4)) rfl ?_)
            refine dGF rfl rfl hb2 rfl ?_
            refine dGF rfl rfl rfl rfl ?_
            refine dGF rfl rfl rfl rfl ?_
            refine dGF rfl rfl rfl rfl ?_
            refine dGF rfl rfl rfl rfl ?_
            refine dGF rfl rfl rfl rfl ?_
            refine dGT rfl rfl rfl ?_
            refine dP rfl rfl (o_pickF rfl rfl (v := .bool false) rfl (dP rfl rfl (o_pickF rfl rfl (v := .bool false) rfl (dP rfl rfl (o_assign (v := .bool false) rfl (dN ?_))))))
            refine Vc.ret' ?_
            refine res_tmp (v := .bool false) rfl (res_nil ?_)
            show Gives _ (.bool false) _
            exact gives_out hrg (VW.refl _) (hQ _ h)
          refine qZ ?_
          rcases Bool.eq_false_or_eq_true (one1 == 0) with hb3 | hb3
          · replace h := h.1 hb3
            rcases Bool.eq_false_or_eq_true (Option.isSome r2) with hb4 | hb4
            · replace h := h.1 hb4
              refine Vc.drawn' mixed rg (fun _ => jcr2) (by kernel_rfl) ?_
              refine dP rfl rfl (o_move (v := .int .i64 one1) rfl (dP rfl rfl (o_eql rfl rfl (dP rfl rfl (o_move (v := .bool (one1 == 0)) rfl ?_)))))
              refine dGT rfl rfl hb3 ?_
              refine dP rfl rfl (o_move (v := eErr 73 r2) rfl ?_)
              refine dGT rfl rfl rfl ?_
              refine dP rfl rfl (o_isnon td32 (E := 73) rfl rfl rfl ?_)
              refine dGT rfl rfl rfl ?_
              refine dP rfl rfl (o_move (v := .bool (Option.isSome r2)) rfl ?_)
              refine dGF rfl rfl hb4 rfl ?_
              refine dGF rfl rfl rfl rfl ?_
              refine dGF rfl rfl rfl rfl ?_
              refine dGF rfl rfl rfl rfl ?_
              refine dGF rfl rfl rfl rfl ?_
              refine dGF rfl rfl rfl rfl ?_
              refine dGT rfl rfl rfl ?_
              refine dP rfl rfl (o_pickT rfl rfl (v := .bool true) rfl (dP rfl rfl (o_pickT rfl rfl (v := .bool true) rfl (dN ?_))))
              refine Vc.cond' rfl (fun _ => ?_) (fun hb => Bool.noConfusion hb)
              refine qZ (rZ (asZ (.bool false) rfl (nZ ?_)))
              refine Vc.ret' ?_
              refine res_tmp (v := .bool false) rfl (res_nil ?_)
              show Gives _ (.bool false) _
              exact gives_out hrg (VW.refl _) (hQ _ h)
            replace h := h.2 hb4
            obtain ⟨r7, hc2, h⟩ := h
            obtain ⟨r8, hc3, h⟩ := h
            refine Vc.drawn' mixed rg (usOf [(9, pc (eDiagram r7)), (10, pc (.bool r8))]) (by kernel_rfl) ?_
            refine dP rfl rfl (o_move (v := .int .i64 one1) rfl (dP rfl rfl (o_eql rfl rfl (dP rfl rfl (o_move (v := .bool (one1 == 0)) rfl ?_)))))
            refine dGT rfl rfl hb3 ?_
            refine dP rfl rfl (o_move (v := eErr 73 r2) rfl ?_)
            refine dGT rfl rfl rfl ?_
            refine dP rfl rfl (o_isnon td32 (E := 73) rfl rfl rfl ?_)
            refine dGT rfl rfl rfl ?_
            refine dP rfl rfl (o_move (v := .bool (Option.isSome r2)) rfl ?_)
            refine dGT rfl rfl hb4 ?_
            refine dL (E := ([(rg, 7)], [])) rfl rfl (by simp) (cfn) (o_loadBA (atL (k := 7) rfl) sz30 (by decide) ag30 rfl rfl (v := eDiagram r1) rfl ?_)
            refine dGT rfl rfl rfl ?_
            refine dL (E := ([(rg, 3)], [])) rfl rfl (by simp) (cfa (by simp [apartE]) (cfn)) (o_loadBA (atL (k := 3) rfl) sz30 (by decide) ag30 rfl rfl (v := eDiagram d) rfl ?_)
            refine dGT rfl rfl rfl ?_
            refine dP rfl rfl (o_move (v := .int .i64 place) rfl ?_)
            refine dGT rfl rfl rfl ?_
            refine dC (vs := [eDiagram d, AV.int .i64 place]) rfl (vl' vr (vl' vr (vn))) (fun _ => ref17_Swap_ctr hc2 (fun _ hr => ⟨by rw [hr], rfl⟩)) rfl ?_
            refine dGT rfl rfl rfl ?_
            refine dC (vs := [eDiagram r1, eDiagram r7]) rfl (vl' vr (vl' vr (vn))) (fun _ => base_Diagram_ctr hc3 (fun _ hr => ⟨by rw [hr], rfl⟩)) rfl ?_
            refine dGT rfl rfl rfl ?_
            refine dP rfl rfl (o_not rfl ?_)
            refine dGT rfl rfl rfl ?_
            refine dP rfl rfl (o_pickF rfl rfl (v := .bool (!r8)) rfl (dP rfl rfl (o_pickT rfl rfl (v := .bool (!r8)) rfl (dN ?_))))
            refine Vc.cond' rfl (fun hb5 => ?_) (fun hb5 => ?_)
            · replace h := h.1 hb5
              refine qZ (rZ (asZ (.bool false) rfl (nZ ?_)))
              refine Vc.ret' ?_
              refine res_tmp (v := .bool false) rfl (res_nil ?_)
              show Gives _ (.bool false) _
              exact gives_out hrg (VW.refl _) (hQ _ h)
            replace h := h.2 hb5
            refine Vc.skip' ?_
            exact ⟨((), (g11, g13)), (canon (fc vr (fc vr (fc vr (fc vr (fc vr (fc vr (fn))))))) (sc rfl (sc rfl (sn)))), h⟩
          replace h := h.2 hb3
          refine Vc.drawn' mixed rg (fun _ => jcr2) (by kernel_rfl) ?_
          refine dP rfl rfl (o_move (v := .int .i64 one1) rfl (dP rfl rfl (o_eql rfl rfl (dP rfl rfl (o_move (v := .bool (one1 == 0)) rfl ?_)))))
          refine dGF rfl rfl hb3 rfl ?_
          refine dGF rfl rfl rfl rfl ?_
          refine dGF rfl rfl rfl rfl ?_
          refine dGU rfl rfl ?_
          refine dGU rfl rfl ?_
          refine dGU rfl rfl ?_
          refine dGU rfl rfl ?_
          refine dGU rfl rfl ?_
          refine dGU rfl rfl ?_
          refine dGF rfl rfl rfl rfl ?_
          refine dP rfl rfl (o_pickF rfl rfl (v := .bool false) rfl (dN ?_))
          refine Vc.cond' rfl (fun hb => Bool.noConfusion hb) (fun _ => ?_)
          refine Vc.skip' ?_
          exact ⟨((), (g11, g13)), (canon (fc vr (fc vr (fc vr (fc vr (fc vr (fc vr (fn))))))) (sc rfl (sc rfl (sn)))), h⟩
        refine qZ (rZ (mvZ (.int .i64 one1) rfl (wZ rg (o_neq rfl rfl (mvZ (.bool (one1 != 0)) rfl ?_)))))
        refine Wl.guard rfl rfl (fun hb6 => ?_) (fun hb6 => ?_)
        · replace h := h.1 hb6
          refine wZ rg (o_loadBA (atL (k := 7) rfl) sz30 (by decide) ag30 rfl rfl (v := eDiagram r1) rfl ?_)
          refine Wl.guardT rfl rfl hb6 ?_
          refine mvZ (eErr 73 r2) rfl ?_
          refine Wl.guardT rfl rfl hb6 ?_
          refine mvZ (.int .i64 one1) rfl ?_
          refine Wl.guardT rfl rfl hb6 ?_
          refine wZ rg (o_call (us := [eDiagram r1, eErr 73 r2, AV.int .i64 one1]) rfl (vl' vr (vl' vr (vl' vr (vn)))) (law17_none_ctr h fun r9 h => ?_))
          refine Wl.guardT rfl rfl hb6 ?_
          refine wZ rg (o_not rfl (wZ rg (o_pickT rfl hb6 (v := .bool (!r9)) rfl (mvZ (.bool (!r9)) rfl ?_))))
          refine Wl.guard rfl rfl (fun hb7 => ?_) (fun hb7 => ?_)
          · replace h := h.2 hb7
            refine mvZ (.int .i64 two) rfl ?_
            refine Wl.guardT rfl rfl hb7 ?_
            refine wZ rg (o_neq rfl rfl ?_)
            refine Wl.guardT rfl rfl hb7 ?_
            refine mvZ (.bool (two != 0)) rfl ?_
            refine Wl.guard rfl rfl (fun hb8 => ?_) (fun hb8 => ?_)
            · replace h := h.1 hb8
              refine wZ rg (o_loadBA (atL (k := 9) rfl) sz30 (by decide) ag30 rfl rfl (v := eDiagram r3) rfl ?_)
              refine Wl.guardT rfl rfl hb8 ?_
              refine mvZ (eErr 73 r4) rfl ?_
              refine Wl.guardT rfl rfl hb8 ?_
              refine mvZ (.int .i64 two) rfl ?_
              refine Wl.guardT rfl rfl hb8 ?_
              refine wZ rg (o_call (us := [eDiagram r3, eErr 73 r4, AV.int .i64 two]) rfl (vl' vr (vl' vr (vl' vr (vn)))) (law17_none_ctr h fun r10 h => ?_))
              refine Wl.guardT rfl rfl hb8 ?_
              refine wZ rg (o_not rfl ?_)
              refine Wl.guardT rfl rfl hb7 ?_
              refine wZ rg (o_pickT rfl hb8 (v := .bool (!r10)) rfl (wZ rg (o_pickF rfl hb7 (v := .bool (!r10)) rfl (nZ ?_))))
              refine Vc.cond' rfl (fun hb9 => ?_) (fun hb9 => ?_)
              · replace h := h.1 hb9
                refine qZ (rZ (asZ (.bool false) rfl (nZ ?_)))
                refine Vc.ret' ?_
                refine res_tmp (v := .bool false) rfl (res_nil ?_)
                show Gives _ (.bool false) _
                exact gives_out hrg (VW.refl _) (hQ _ h)
              replace h := h.2 hb9
              refine Vc.skip' ?_
              exact ⟨((), (g8, g9, g10)), (canon (fc vr (fc vr (fc vr (fc vr (fc vr (fc vr (fc vr (fc vr (fc vr (fn)))))))))) (sc rfl (sc rfl (sc rfl (sn))))), h⟩
            replace h := h.2 hb8
            refine Wl.guardF rfl rfl hb8 rfl ?_
            refine Wl.guardF rfl rfl hb8 rfl ?_
            refine Wl.guardF rfl rfl hb8 rfl ?_
            refine Wl.guardF rfl rfl hb8 rfl ?_
            refine Wl.guardT rfl rfl hb7 ?_
            refine wZ rg (o_pickF rfl hb8 (v := .bool false) rfl (wZ rg (o_pickF rfl hb7 (v := .bool false) rfl (nZ ?_))))
            refine Vc.cond' rfl (fun hb => Bool.noConfusion hb) (fun _ => ?_)
            refine Vc.skip' ?_
            exact ⟨((), (g8, g9, g10)), (canon (fc vr (fc vr (fc vr (fc vr (fc vr (fc vr (fc vr (fc vr (fc vr (fn)))))))))) (sc rfl (sc rfl (sc rfl (sn))))), h⟩
          replace h := h.1 hb7
          refine Wl.guardF rfl rfl hb7 rfl ?_
          refine Wl.guardF rfl rfl hb7 rfl ?_
          refine Wl.guardU rfl rfl ?_
          refine Wl.guardU rfl rfl ?_
          refine Wl.guardU rfl rfl ?_
          refine Wl.guardU rfl rfl ?_
          refine Wl.guardU rfl rfl ?_
          refine Wl.guardF rfl rfl hb7 rfl ?_
          refine wZ rg (o_pickT rfl hb7 (v := .bool true) rfl (nZ ?_))
          refine Vc.cond' rfl (fun _ => ?_) (fun hb => Bool.noConfusion hb)
          refine qZ (rZ (asZ (.bool false) rfl (nZ ?_)))
          refine Vc.ret' ?_
          refine res_tmp (v := .bool false) rfl (res_nil ?_)
          show Gives _ (.bool false) _
          exact gives_out hrg (VW.refl _) (hQ _ h)
        replace h := h.2 hb6
        refine Wl.guardF rfl rfl hb6 rfl ?_
        refine Wl.guardF rfl rfl hb6 rfl ?_
        refine Wl.guardF rfl rfl hb6 rfl ?_
        refine Wl.guardF rfl rfl hb6 rfl ?_
        refine wZ rg (o_pickF rfl hb6 (v := .bool false) rfl (mvZ (.bool false) rfl ?_))
        refine Wl.guardT rfl rfl rfl ?_
        refine mvZ (.int .i64 two) rfl ?_
        refine Wl.guardT rfl rfl rfl ?_
        refine wZ rg (o_neq rfl rfl ?_)
        refine Wl.guardT rfl rfl rfl ?_
        refine mvZ (.bool (two != 0)) rfl ?_
        refine Wl.guard rfl rfl (fun hb10 => ?_) (fun hb10 => ?_)
        · replace h := h.1 hb10
          refine wZ rg (o_loadBA (atL (k := 9) rfl) sz30 (by decide) ag30 rfl rfl (v := eDiagram r3) rfl ?_)
          refine Wl.guardT rfl rfl hb10 ?_
          refine mvZ (eErr 73 r4) rfl ?_
          refine Wl.guardT rfl rfl hb10 ?_
          refine mvZ (.int .i64 two) rfl ?_
          refine Wl.guardT rfl rfl hb10 ?_
          refine wZ rg (o_call (us := [eDiagram r3, eErr 73 r4, AV.int .i64 two]) rfl (vl' vr (vl' vr (vl' vr (vn)))) (law17_none_ctr h fun r11 h => ?_))
          refine Wl.guardT rfl rfl hb10 ?_
          refine wZ rg (o_not rfl ?_)
          refine Wl.guardT rfl rfl rfl ?_
          refine wZ rg (o_pickT rfl hb10 (v := .bool (!r11)) rfl (wZ rg (o_pickF rfl rfl (v := .bool (!r11)) rfl (nZ ?_))))
          refine Vc.cond' rfl (fun hb11 => ?_) (fun hb11 => ?_)
          · replace h := h.1 hb11
            refine qZ (rZ (asZ (.bool false) rfl (nZ ?_)))
            refine Vc.ret' ?_
            refine res_tmp (v := .bool false) rfl (res_nil ?_)
            show Gives _ (.bool false) _
            exact gives_out hrg (VW.refl _) (hQ _ h)
          replace h := h.2 hb11
          refine Vc.skip' ?_
          exact ⟨((), (g8, g9, g10)), (canon (fc vr (fc vr (fc vr (fc vr (fc vr (fc vr (fc vr (fc vr (fc vr (fn)))))))))) (sc rfl (sc rfl (sc rfl (sn))))), h⟩
        replace h := h.2 hb10
        refine Wl.guardF rfl rfl hb10 rfl ?_
        refine Wl.guardF rfl rfl hb10 rfl ?_
        refine Wl.guardF rfl rfl hb10 rfl ?_
        refine Wl.guardF rfl rfl hb10 rfl ?_
        refine Wl.guardT rfl rfl rfl ?_
        refine wZ rg (o_pickF rfl hb10 (v := .bool false) rfl (wZ rg (o_pickF rfl rfl (v := .bool false) rfl (nZ ?_))))
        refine Vc.cond' rfl (fun hb => Bool.noConfusion hb) (fun _ => ?_)
        refine Vc.skip' ?_
        exact ⟨((), (g8, g9, g10)), (canon (fc vr (fc vr (fc vr (fc vr (fc vr (fc vr (fc vr (fc vr (fc vr (fn)))))))))) (sc rfl (sc rfl (sc rfl (sn))))), h⟩
      refine qZ (rZ (mvZ (.int .i64 one) rfl (wZ rg (o_eql rfl rfl (mvZ (.bool (one == 0)) rfl ?_)))))
      refine Wl.guard rfl rfl (fun hb12 => ?_) (fun hb12 => ?_)
      · replace h := h.1 hb12
        refine mvZ (.int .i64 event) rfl ?_
        refine Wl.guardT rfl rfl hb12 ?_
        refine wZ rg (o_lss rfl rfl ?_)
        refine Wl.guardT rfl rfl hb12 ?_
        refine mvZ (.bool (decide (event < 0))) rfl ?_
        refine Wl.guard rfl rfl (fun hb13 => ?_) (fun hb13 => ?_)
        · replace h := h.2 hb13
          refine mvZ (.int .i64 event) rfl ?_
          refine Wl.guardT rfl rfl hb13 ?_
          refine mvZ (.int .i64 (d.Order.length : Int)) rfl ?_
          refine Wl.guardT rfl rfl hb13 ?_
          refine wZ rg (o_geq rfl rfl ?_)
          refine Wl.guardT rfl rfl hb12 ?_
          refine wZ rg (o_pickF rfl hb13 (v := .bool (decide ((d.Order.length : Int) ≤ event))) rfl ?_)
          refine Wl.guardT rfl rfl hb12 ?_
          refine mvZ (.bool (decide ((d.Order.length : Int) ≤ event))) rfl ?_
          refine Wl.guard rfl rfl (fun hb14 => ?_) (fun hb14 => ?_)
          · replace h := h.2 hb14
            refine mvZ (.int .i64 place) rfl ?_
            refine Wl.guardT rfl rfl hb14 ?_
            refine wZ rg (o_lss rfl rfl ?_)
            refine Wl.guardT rfl rfl hb12 ?_
            refine wZ rg (o_pickF rfl hb14 (v := .bool (decide (place < 0))) rfl ?_)
            refine Wl.guardT rfl rfl hb12 ?_
            refine mvZ (.bool (decide (place < 0))) rfl ?_
            refine Wl.guard rfl rfl (fun hb15 => ?_) (fun hb15 => ?_)
            · replace h := h.2 hb15
              refine mvZ (.int .i64 place) rfl ?_
              refine Wl.guardT rfl rfl hb15 ?_
              refine mvZ (.int .i64 (d.Order.length : Int)) rfl ?_
              refine Wl.guardT rfl rfl hb15 ?_
              refine wZ rg (o_geq rfl rfl ?_)
              refine Wl.guardT rfl rfl hb12 ?_
              refine wZ rg (o_pickF rfl hb15 (v := .bool (decide ((d.Order.length : Int) ≤ place))) rfl (wZ rg (o_pickT rfl hb12 (v := .bool (decide ((d.Order.length : Int) ≤ place))) rfl (nZ ?_))))
              refine Vc.cond' rfl (fun hb16 => ?_) (fun hb16 => ?_)
              · replace h := h.1 hb16
                refine rZ ?_
                refine asZ (.int .i64 10) rfl (nZ ?_)
                exact ⟨(10, (g5, g6, g7)), (canon (fc vr (fc vr (fc vr (fc vr (fc vr (fc vr (fc vr (fc vr (fc vr (fn)))))))))) (sc rfl (sc rfl (sc rfl (sn))))), h⟩
              replace h := h.2 hb16
              refine Vc.skip' ?_
              exact ⟨(one, (g5, g6, g7)), (canon (fc vr (fc vr (fc vr (fc vr (fc vr (fc vr (fc vr (fc vr (fc vr (fn)))))))))) (sc rfl (sc rfl (sc rfl (sn))))), h⟩
            replace h := h.1 hb15
            refine Wl.guardF rfl rfl hb15 rfl ?_
            refine Wl.guardF rfl rfl hb15 rfl ?_
            refine Wl.guardT rfl rfl hb12 ?_
            refine wZ rg (o_pickT rfl hb15 (v := .bool true) rfl (wZ rg (o_pickT rfl hb12 (v := .bool true) rfl (nZ ?_))))
            refine Vc.cond' rfl (fun _ => ?_) (fun hb => Bool.noConfusion hb)
            refine rZ ?_
            refine asZ (.int .i64 10) rfl (nZ ?_)
            exact ⟨(10, (g5, g6, g7)), (canon (fc vr (fc vr (fc vr (fc vr (fc vr (fc vr (fc vr (fc vr (fc vr (fn)))))))))) (sc rfl (sc rfl (sc rfl (sn))))), h⟩
          replace h := h.1 hb14
          refine Wl.guardF rfl rfl hb14 rfl ?_
          refine Wl.guardT rfl rfl hb12 ?_
          refine wZ rg (o_pickT rfl hb14 (v := .bool true) rfl ?_)
          refine Wl.guardT rfl rfl hb12 ?_
          refine mvZ (.bool true) rfl ?_
          refine Wl.guardF rfl rfl rfl rfl ?_
          refine Wl.guardF rfl rfl rfl rfl ?_
          refine Wl.guardF rfl rfl rfl rfl ?_
          refine Wl.guardT rfl rfl hb12 ?_
          refine wZ rg (o_pickT rfl rfl (v := .bool true) rfl (wZ rg (o_pickT rfl hb12 (v := .bool true) rfl (nZ ?_))))
          refine Vc.cond' rfl (fun _ => ?_) (fun hb => Bool.noConfusion hb)
          refine rZ ?_
          refine asZ (.int .i64 10) rfl (nZ ?_)
          exact ⟨(10, (g5, g6, g7)), (canon (fc vr (fc vr (fc vr (fc vr (fc vr (fc vr (fc vr (fc vr (fc vr (fn)))))))))) (sc rfl (sc rfl (sc rfl (sn))))), h⟩
        replace h := h.1 hb13
        refine Wl.guardF rfl rfl hb13 rfl ?_
        refine Wl.guardF rfl rfl hb13 rfl ?_
        refine Wl.guardT rfl rfl hb12 ?_
        refine wZ rg (o_pickT rfl hb13 (v := .bool true) rfl ?_)
        refine Wl.guardT rfl rfl hb12 ?_
        refine mvZ (.bool true) rfl ?_
        refine Wl.guardF rfl rfl rfl rfl ?_
        refine Wl.guardF rfl rfl rfl rfl ?_
        refine Wl.guardT rfl rfl hb12 ?_
        refine wZ rg (o_pickT rfl rfl (v := .bool true) rfl ?_)
        refine Wl.guardT rfl rfl hb12 ?_
        refine mvZ (.bool true) rfl ?_
        refine Wl.guardF rfl rfl rfl rfl ?_
        refine Wl.guardF rfl rfl rfl rfl ?_
        refine Wl.guardF rfl rfl rfl rfl ?_
        refine Wl.guardT rfl rfl hb12 ?_
        refine wZ rg (o_pickT rfl rfl (v := .bool true) rfl (wZ rg (o_pickT rfl hb12 (v := .bool true) rfl (nZ ?_))))
        refine Vc.cond' rfl (fun _ => ?_) (fun hb => Bool.noConfusion hb)
        refine rZ ?_
        refine asZ (.int .i64 10) rfl (nZ ?_)
        exact ⟨(10, (g5, g6, g7)), (canon (fc vr (fc vr (fc vr (fc vr (fc vr (fc vr (fc vr (fc vr (fc vr (fn)))))))))) (sc rfl (sc rfl (sc rfl (sn))))), h⟩
      replace h := h.2 hb12
      refine Wl.guardF rfl rfl hb12 rfl ?_
      refine Wl.guardF rfl rfl hb12 rfl ?_
      refine Wl.guardU rfl rfl ?_
      refine Wl.guardU rfl rfl ?_
      refine Wl.guardU rfl rfl ?_
      refine Wl.guardF rfl rfl hb12 rfl ?_
      refine Wl.guardF rfl rfl hb12 rfl ?_
      refine Wl.guardU rfl rfl ?_
      refine Wl.guardU rfl rfl ?_
      refine Wl.guardF rfl rfl hb12 rfl ?_
      refine Wl.guardF rfl rfl hb12 rfl ?_
      refine Wl.guardU rfl rfl ?_
      refine Wl.guardU rfl rfl ?_
      refine Wl.guardU rfl rfl ?_
      refine Wl.guardF rfl rfl hb12 rfl ?_
      refine wZ rg (o_pickF rfl hb12 (v := .bool false) rfl (nZ ?_))
      refine Vc.cond' rfl (fun hb => Bool.noConfusion hb) (fun _ => ?_)
      refine Vc.skip' ?_
      exact ⟨(one, (g5, g6, g7)), (canon (fc vr (fc vr (fc vr (fc vr (fc vr (fc vr (fc vr (fc vr (fc vr (fn)))))))))) (sc rfl (sc rfl (sc rfl (sn))))), h⟩
    refine qZ (rZ (mvZ (.int .i64 one) rfl (wZ rg (o_eql rfl rfl (mvZ (.bool (one == 0)) rfl ?_)))))
    refine Wl.guard rfl rfl (fun hb17 => ?_) (fun hb17 => ?_)
    · replace h := h.1 hb17
      refine mvZ (.int .i64 place) rfl ?_
      refine Wl.guardT rfl rfl hb17 ?_
      refine wZ rg (o_lss rfl rfl ?_)
      refine Wl.guardT rfl rfl hb17 ?_
      refine mvZ (.bool (decide (place < 0))) rfl ?_
      refine Wl.guard rfl rfl (fun hb18 => ?_) (fun hb18 => ?_)
      · replace h := h.2 hb18
        refine mvZ (.int .i64 place) rfl ?_
        refine Wl.guardT rfl rfl hb18 ?_
        refine mvZ (.int .i64 (d.Order.length : Int)) rfl ?_
        refine Wl.guardT rfl rfl hb18 ?_
        refine wZ rg (o_subG rfl rfl h.1 ?_)
        replace h := h.2
        refine Wl.guardT rfl rfl hb18 ?_
        refine wZ rg (o_gtr rfl rfl ?_)
        refine Wl.guardT rfl rfl hb17 ?_
        refine wZ rg (o_pickF rfl hb18 (v := .bool (decide (((d.Order.length : Int) - 2) < place))) rfl (wZ rg (o_pickT rfl hb17 (v := .bool (decide (((d.Order.length : Int) - 2) < place))) rfl (nZ ?_))))
        refine Vc.cond' rfl (fun hb19 => ?_) (fun hb19 => ?_)
        · replace h := h.1 hb19
          refine rZ ?_
          refine asZ (.int .i64 10) rfl (nZ ?_)
          exact ⟨(10, (g2, g3, g4)), (canon (fc vr (fc vr (fc vr (fc vr (fc vr (fc vr (fc vr (fc vr (fc vr (fc vr (fn))))))))))) (sc rfl (sc rfl (sc rfl (sn))))), h⟩
        replace h := h.2 hb19
        refine Vc.skip' ?_
        exact ⟨(one, (g2, g3, g4)), (canon (fc vr (fc vr (fc vr (fc vr (fc vr (fc vr (fc vr (fc vr (fc vr (fc vr (fn))))))))))) (sc rfl (sc rfl (sc rfl (sn))))), h⟩
      replace h := h.1 hb18
      refine Wl.guardF rfl rfl hb18 rfl ?_
      refine Wl.guardF rfl rfl hb18 rfl ?_
      refine Wl.guardF rfl rfl hb18 rfl ?_
      refine Wl.guardT rfl rfl hb17 ?_
      refine wZ rg (o_pickT rfl hb18 (v := .bool true) rfl (wZ rg (o_pickT rfl hb17 (v := .bool true) rfl (nZ ?_))))
      refine Vc.cond' rfl (fun _ => ?_) (fun hb => Bool.noConfusion hb)
      refine rZ ?_
      refine asZ (.int .i64 10) rfl (nZ ?_)
      exact ⟨(10, (g2, g3, g4)), (canon (fc vr (fc vr (fc vr (fc vr (fc vr (fc vr (fc vr (fc vr (fc vr (fc vr (fn))))))))))) (sc rfl (sc rfl (sc rfl (sn))))), h⟩
    replace h := h.2 hb17
    refine Wl.guardF rfl rfl hb17 rfl ?_
    refine Wl.guardF rfl rfl hb17 rfl ?_
    refine Wl.guardU rfl rfl ?_
    refine Wl.guardU rfl rfl ?_
    refine Wl.guardU rfl rfl ?_
    refine Wl.guardU rfl rfl ?_
    refine Wl.guardF rfl rfl hb17 rfl ?_
    refine wZ rg (o_pickF rfl hb17 (v := .bool false) rfl (nZ ?_))
    refine Vc.cond' rfl (fun hb => Bool.noConfusion hb) (fun _ => ?_)
    refine Vc.skip' ?_
    exact ⟨(one, (g2, g3, g4)), (canon (fc vr (fc vr (fc vr (fc vr (fc vr (fc vr (fc vr (fc vr (fc vr (fc vr (fn))))))))))) (sc rfl (sc rfl (sc rfl (sn))))), h⟩
  refine rZ ?_
  refine wZ rg (o_call (us := []) rfl (vn) (law17_awake_ctr h fun r12 h => (wZ rg (o_not rfl (mvZ (.bool (!r12)) rfl ?_)))))
  refine Wl.guard rfl rfl (fun hb20 => ?_) (fun hb20 => ?_)
  · replace h := h.2 hb20
    refine wZ rg (o_loadBA (atL (k := 3) rfl) sz30 (by decide) ag30 rfl rfl (v := eDiagram d) rfl ?_)
    refine Wl.guardT rfl rfl hb20 ?_
    refine wZ rg (o_call (us := [eDiagram d, AV.int .i64 8]) rfl (vl' vr (vl' vr (vn))) (law17_large_ctr h fun r13 h => (wZ rg (o_pickF rfl hb20 (v := .bool r13) rfl (nZ ?_)))))
    exact ⟨(r13, g1), (canon (fc vr (fc vr (fc vr (fc vr (fn))))) (sc rfl (sn))), h⟩
  replace h := h.1 hb20
  refine Wl.guardF rfl rfl hb20 rfl ?_
  refine wZ rg (o_pickT rfl hb20 (v := .bool true) rfl (nZ ?_))
  exact ⟨(true, g1), (canon (fc vr (fc vr (fc vr (fc vr (fn))))) (sc rfl (sn))), h⟩
end Go.Proofs.Ytiamkdpljeemkaa
