/- Walks of functions. Conditions: none. -/
import Derived.Test.YtiamkdpljeemkaaWa
import Derived.Test.YtiamkdpljeemkaaGgTy
import Derived.Test.YtiamkdpljeemkaaK1
import Derived.Test.YtiamkdpljeemkaaK3
import Derived.Test.YtiamkdpljeemkaaK4
import Derived.Test.YtiamkdpljeemkaaK9
import Derived.Test.YtiamkdpljeemkaaK5
/- Walks of functions. Conditions: none. -/
namespace Go.Proofs.Ytiamkdpljeemkaa
open Go.Gg
set_option maxRecDepth 100000
theorem law17_SiftingReorders_ctr {d : GDiagram} {o : List Int} {Q : Bool → Prop} {S : St} {R : AV → St → Prop} (h : law17_SiftingReorders_W d o Q) (hQ : ∀ r1, Q r1 → R (AV.bool r1) S) :
    Ctr Try.prog 8 [eDiagram d, eL (AV.int .i64) o] S R := by
  unfold law17_SiftingReorders_W at h
  refine enterT Try.func8 rfl Try.ntmps8 Try.results8 (by kernel_rfl) (fun rg hrg => ?_)
  refine qZ (rZ (wZ rg (o_box (v := eDiagram d) rfl rfl (kk := 3) rfl (by decide) (fun g1 => (asZ (.bool false) rfl (nZ (qZ ?_)))))))
  obtain ⟨J, h, hJ⟩ := h
  refine Vc.join' (σ := ((Bool) × (Nat))) (fun y => J y.1) (fun y => envOf [(1, eL (AV.int .i64) o), (2, .ptr rg 2 y.2 0 0), (18, .bool y.1)]) (fun y => stL S rg [(2, .arr 3 [eDiagram d], y.2)]) (fun y h => ?_) ?_
  · obtain ⟨x, g2⟩ := y
    replace h := hJ x h
    show Vc _ _ _ _ (envOf [(1, eL (AV.int .i64) o), (2, .ptr rg 2 g2 0 0), (18, .bool x)]) (stL S rg [(2, .arr 3 [eDiagram d], g2)])
    refine Vc.cond' rfl (fun hb => ?_) (fun hb => ?_)
    · replace h := h.1 hb
      refine qZ (rZ (wZ rg (o_call (us := []) rfl (vn) (law17_awake_ctr h fun r h => (asZ (.bool r) rfl (nZ ?_))))))
      refine Vc.ret' ?_
      refine res_tmp (v := .bool r) rfl (res_nil ?_)
      show Gives _ (.bool r) _
      exact gives_out hrg (VW.refl _) (hQ _ h)
    replace h := h.2 hb
    refine Vc.skip' ?_
    refine qZ (rZ (wZ rg (o_loadBA (atL (k := 2) rfl) sz30 (by decide) ag30 rfl rfl (v := eDiagram d) rfl (mvZ (eL (AV.int .i64) o) rfl (wZ rg (o_call (us := [eDiagram d, eL (AV.int .i64) o]) rfl (vl' vr (vl' vr (vn))) (sifting_Reorder_ctr h fun r1 r2 h => (mvZ (.tuple [eDiagram r1, eErr 73 r2]) rfl (wZ rg (o_extract (v := eDiagram r1) rfl rfl rfl (wZ rg (o_extract (v := eErr 73 r2) rfl rfl rfl ?_))))))))))))
    refine wZ rg (o_alloc zav30 ok30 (kk := 3) rfl (fun g3 => (wZ rg (o_storeB (atL (k := 5) rfl) sz30 (by decide) rfl (w := eDiagram r1) rfl rfl rfl (v := eDiagram r1) rfl setL (asZ (eErr 73 r2) rfl (nZ (qZ (rZ (wZ rg (o_loadBA (atL (k := 2) rfl) sz30 (by decide) ag30 rfl rfl (v := eDiagram d) rfl (wZ rg (o_call (us := [eDiagram d]) rfl (vl' vr (vn)) (ref15_Check_ctr h fun code h => ?_)))))))))))))
    refine asZ (.int .i64 code) rfl (nZ ?_)
    obtain ⟨J, h, hJ⟩ := h
    refine Vc.join' (σ := ((Int) × (Nat × Nat))) (fun y => J y.1) (fun y => envOf [(1, eL (AV.int .i64) o), (2, .ptr rg 2 y.2.1 0 0), (5, .ptr rg 5 y.2.2 0 0), (6, eErr 73 r2), (7, .int .i64 y.1)]) (fun y => stL S rg [(2, .arr 3 [eDiagram d], y.2.1), (5, .arr 3 [eDiagram r1], y.2.2)]) (fun y h => ?_) ?_
    · obtain ⟨code1, ⟨g4, g5⟩⟩ := y
      replace h := hJ code1 h
      show Vc _ _ _ _ (envOf [(1, eL (AV.int .i64) o), (2, .ptr rg 2 g4 0 0), (5, .ptr rg 5 g5 0 0), (6, eErr 73 r2), (7, .int .i64 code1)]) (stL S rg [(2, .arr 3 [eDiagram d], g4), (5, .arr 3 [eDiagram r1], g5)])
      obtain ⟨J, h, hJ⟩ := h
      refine Vc.join' (σ := ((Int) × (Nat × Nat))) (fun y => J y.1) (fun y => envOf [(1, eL (AV.int .i64) o), (2, .ptr rg 2 y.2.1 0 0), (5, .ptr rg 5 y.2.2 0 0), (6, eErr 73 r2), (7, .int .i64 y.1)]) (fun y => stL S rg [(2, .arr 3 [eDiagram d], y.2.1), (5, .arr 3 [eDiagram r1], y.2.2)]) (fun y h => ?_) ?_
      · obtain ⟨code2, ⟨g6, g7⟩⟩ := y
        replace h := hJ code2 h
        show Vc _ _ _ _ (envOf [(1, eL (AV.int .i64) o), (2, .ptr rg 2 g6 0 0), (5, .ptr rg 5 g7 0 0), (6, eErr 73 r2), (7, .int .i64 code2)]) (stL S rg [(2, .arr 3 [eDiagram d], g6), (5, .arr 3 [eDiagram r1], g7)])
        refine qZ (qZ (rZ (mvZ (.int .i64 code2) rfl (wZ rg (o_neq rfl rfl (nZ ?_))))))
        refine Vc.cond' rfl (fun hb1 => ?_) (fun hb1 => ?_)
        · replace h := h.1 hb1
          refine qZ (rZ (wZ rg (o_loadBA (atL (k := 5) rfl) sz30 (by decide) ag30 rfl rfl (v := eDiagram r1) rfl (mvZ (eErr 73 r2) rfl (mvZ (.int .i64 code2) rfl (wZ rg (o_call (us := [eDiagram r1, eErr 73 r2, AV.int .i64 code2]) rfl (vl' vr (vl' vr (vl' vr (vn)))) (law17_none_ctr h fun r3 h => (asZ (.bool r3) rfl (nZ ?_))))))))))
          refine Vc.ret' ?_
          refine res_tmp (v := .bool r3) rfl (res_nil ?_)
          show Gives _ (.bool r3) _
          exact gives_out hrg (VW.refl _) (hQ _ h)
        replace h := h.2 hb1
        refine Vc.skip' ?_
        refine qZ ?_
        rcases Bool.eq_false_or_eq_true (Option.isNone r2) with hb2 | hb2
        · replace h := h.1 hb2
          obtain ⟨r4, hc, h⟩ := h
          obtain ⟨r5, hc1, h⟩ := h
          refine Vc.drawn' mixed rg (usOf [(6, pc (eDiagram r4)), (7, pc (.bool r5))]) (by kernel_rfl) ?_
          refine dP rfl rfl (o_move (v := eErr 73 r2) rfl (dP rfl rfl (o_isnil td32 (E := 73) rfl rfl rfl (dP rfl rfl (o_move (v := .bool (Option.isNone r2)) rfl ?_)))))
          refine dGT rfl rfl hb2 ?_
          refine dL (E := ([(rg, 5)], [])) rfl rfl (by simp) (cfn) (o_loadBA (atL (k := 5) rfl) sz30 (by decide) ag30 rfl rfl (v := eDiagram r1) rfl ?_)
          refine dGT rfl rfl rfl ?_
          refine dL (E := ([(rg, 2)], [])) rfl rfl (by simp) (cfa (by simp [apartE]) (cfn)) (o_loadBA (atL (k := 2) rfl) sz30 (by decide) ag30 rfl rfl (v := eDiagram d) rfl ?_)
          refine dGT rfl rfl rfl ?_
          refine dP rfl rfl (o_move (v := eL (AV.int .i64) o) rfl ?_)
          refine dGT rfl rfl rfl ?_
          refine dC (vs := [eDiagram d, eL (AV.int .i64) o]) rfl (vl' vr (vl' vr (vn))) (fun _ => ref17_Reorder_ctr hc (fun _ hr => ⟨by rw [hr], rfl⟩)) rfl ?_
          refine dGT rfl rfl rfl ?_
          refine dC (vs := [eDiagram r1, eDiagram r4]) rfl (vl' vr (vl' vr (vn))) (fun _ => base_Diagram_ctr hc1 (fun _ hr => ⟨by rw [hr], rfl⟩)) rfl ?_
          refine dP rfl rfl (o_pickT rfl rfl (v := .bool r5) rfl (dP rfl rfl (o_assign (v := .bool r5) rfl (dN ?_))))
          refine Vc.ret' ?_
          refine res_tmp (v := .bool r5) rfl (res_nil ?_)
          show Gives _ (.bool r5) _
          exact gives_out hrg (VW.refl _) (hQ _ h)
        replace h := h.2 hb2
        refine Vc.drawn' mixed rg (fun _ => jcr2) (by kernel_rfl) ?_
        refine dP rfl rfl (o_move (v := eErr 73 r2) rfl (dP rfl rfl (o_isnil td32 (E := 73) rfl rfl rfl (dP rfl rfl (o_move (v := .bool (Option.isNone r2)) rfl ?_)))))
        refine dGF rfl rfl hb2 rfl ?_
        refine dGF rfl rfl rfl rfl ?_
        refine dGF rfl rfl rfl rfl ?_
        refine dGF rfl rfl rfl rfl ?_
        refine dGF rfl rfl rfl rfl ?_
        refine dP rfl rfl (o_pickF rfl rfl (v := .bool false) rfl (dP rfl rfl (o_assign (v := .bool false) rfl (dN ?_))))
        refine Vc.ret' ?_
        refine res_tmp (v := .bool false) rfl (res_nil ?_)
        show Gives _ (.bool false) _
        exact gives_out hrg (VW.refl _) (hQ _ h)
      refine qZ (rZ (mvZ (.int .i64 code1) rfl (wZ rg (o_eql rfl rfl (mvZ (.bool (code1 == 0)) rfl ?_)))))
      refine Wl.guard rfl rfl (fun hb3 => ?_) (fun hb3 => ?_)
      · replace h := h.1 hb3
        refine mvZ (eL (AV.int .i64) o) rfl ?_
        refine Wl.guardT rfl rfl hb3 ?_
        refine wZ rg (o_len td25 rfl ?_)
        refine Wl.guardT rfl rfl hb3 ?_
        refine wZ rg (o_faP td30 rfl rfl (by rw [sz25]; decide) rfl ?_)
        refine Wl.guardT rfl rfl hb3 ?_
        refine wZ rg (o_loadB1 (atL (k := 2) rfl) sz25 ag25 rfl rfl (v := eL (AV.int .i64) d.Order) rfl ?_)
        refine Wl.guardT rfl rfl hb3 ?_
        refine wZ rg (o_len td25 rfl ?_)
        refine Wl.guardT rfl rfl hb3 ?_
        refine wZ rg (o_neq rfl rfl (wZ rg (o_pickT rfl hb3 (v := .bool ((o.length : Int) != (d.Order.length : Int))) rfl (nZ ?_))))
        refine Vc.cond' rfl (fun hb4 => ?_) (fun hb4 => ?_)
        · replace h := h.1 hb4
          refine rZ ?_
          refine asZ (.int .i64 11) rfl (nZ ?_)
          exact ⟨(11, (g4, g5)), (canon (fc vr (fc vr (fc vr (fc vr (fc vr (fn)))))) (sc rfl (sc rfl (sn)))), h⟩
        replace h := h.2 hb4
        refine Vc.skip' ?_
        exact ⟨(code1, (g4, g5)), (canon (fc vr (fc vr (fc vr (fc vr (fc vr (fn)))))) (sc rfl (sc rfl (sn)))), h⟩
      replace h := h.2 hb3
      refine Wl.guardF rfl rfl hb3 rfl ?_
      refine Wl.guardF rfl rfl hb3 rfl ?_
      refine Wl.guardF rfl rfl hb3 rfl ?_
      refine Wl.guardF rfl rfl hb3 rfl ?_
      refine Wl.guardF rfl rfl hb3 rfl ?_
      refine wZ rg (o_pickF rfl hb3 (v := .bool false) rfl (nZ ?_))
      refine Vc.cond' rfl (fun hb => Bool.noConfusion hb) (fun _ => ?_)
      refine Vc.skip' ?_
      exact ⟨(code1, (g4, g5)), (canon (fc vr (fc vr (fc vr (fc vr (fc vr (fn)))))) (sc rfl (sc rfl (sn)))), h⟩
    refine qZ (rZ (mvZ (.int .i64 code) rfl (wZ rg (o_eql rfl rfl (nZ ?_)))))
    refine Vc.cond' rfl (fun hb5 => ?_) (fun hb5 => ?_)
    · replace h := h.1 hb5
      refine rZ ?_
      refine mvZ (eL (AV.int .i64) o) rfl (mvZ (eL (AV.int .i64) o) rfl (wZ rg (o_len td25 rfl (wZ rg (o_call (us := [eL (AV.int .i64) o, AV.int .i64 (o.length : Int)]) rfl (vl' vr (vl' vr (vn))) (ref14_Check_ctr h fun code3 h => (asZ (.int .i64 code3) rfl (nZ ?_))))))))
      exact ⟨(code3, (g2, g3)), (canon (fc vr (fc vr (fc vr (fc vr (fc vr (fn)))))) (sc rfl (sc rfl (sn)))), h⟩
    replace h := h.2 hb5
    refine Vc.skip' ?_
    exact ⟨(code, (g2, g3)), (canon (fc vr (fc vr (fc vr (fc vr (fc vr (fn)))))) (sc rfl (sc rfl (sn)))), h⟩
  refine rZ ?_
  refine wZ rg (o_call (us := []) rfl (vn) (law17_awake_ctr h fun r6 h => (wZ rg (o_not rfl (mvZ (.bool (!r6)) rfl ?_)))))
  refine Wl.guard rfl rfl (fun hb6 => ?_) (fun hb6 => ?_)
  · replace h := h.2 hb6
    refine wZ rg (o_loadBA (atL (k := 2) rfl) sz30 (by decide) ag30 rfl rfl (v := eDiagram d) rfl ?_)
    refine Wl.guardT rfl rfl hb6 ?_
    refine wZ rg (o_call (us := [eDiagram d, AV.int .i64 8]) rfl (vl' vr (vl' vr (vn))) (law17_large_ctr h fun r7 h => (wZ rg (o_pickF rfl hb6 (v := .bool r7) rfl (mvZ (.bool r7) rfl ?_)))))
    refine Wl.guard rfl rfl (fun hb7 => ?_) (fun hb7 => ?_)
    · replace h := h.2 hb7
      refine mvZ (eL (AV.int .i64) o) rfl ?_
      refine Wl.guardT rfl rfl hb7 ?_
      refine wZ rg (o_len td25 rfl ?_)
      refine Wl.guardT rfl rfl hb7 ?_
      refine wZ rg (o_gtr rfl rfl (wZ rg (o_pickF rfl hb7 (v := .bool (decide (100 < (o.length : Int)))) rfl (nZ ?_))))
      exact ⟨((decide (100 < (o.length : Int))), g1), (canon (fc vr (fc vr (fc vr (fn)))) (sc rfl (sn))), h⟩
    replace h := h.1 hb7
    refine Wl.guardF rfl rfl hb7 rfl ?_
    refine Wl.guardF rfl rfl hb7 rfl ?_
    refine wZ rg (o_pickT rfl hb7 (v := .bool true) rfl (nZ ?_))
    exact ⟨(true, g1), (canon (fc vr (fc vr (fc vr (fn)))) (sc rfl (sn))), h⟩
  replace h := h.1 hb6
  refine Wl.guardF rfl rfl hb6 rfl ?_
  refine wZ rg (o_pickT rfl hb6 (v := .bool true) rfl (mvZ (.bool true) rfl ?_))
  refine Wl.guardF rfl rfl rfl rfl ?_
  refine Wl.guardF rfl rfl rfl rfl ?_
  refine Wl.guardF rfl rfl rfl rfl ?_
  refine wZ rg (o_pickT rfl rfl (v := .bool true) rfl (nZ ?_))
  exact ⟨(true, g1), (canon (fc vr (fc vr (fc vr (fn)))) (sc rfl (sn))), h⟩
end Go.Proofs.Ytiamkdpljeemkaa
