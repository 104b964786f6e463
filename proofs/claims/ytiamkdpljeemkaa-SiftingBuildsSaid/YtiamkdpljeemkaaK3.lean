/- Walks of functions. Conditions: none. -/
import Derived.Test.YtiamkdpljeemkaaWa
import Derived.Test.YtiamkdpljeemkaaGgTy
import Derived.Test.YtiamkdpljeemkaaGd
import Derived.Test.YtiamkdpljeemkaaK2
import Derived.Test.YtiamkdpljeemkaaGe
/- Walks of functions. Conditions: none. -/
namespace Go.Proofs.Ytiamkdpljeemkaa
open Go.Gg
set_option maxRecDepth 100000
theorem diagram_checkNode_ctr {d : GDiagram} {at1 : List Int} {i : Int} {Q : Option Int → Prop} {S : St} {R : AV → St → Prop} (h : diagram_checkNode_W d at1 i Q) (hQ : ∀ r1, Q r1 → R (eErr 73 r1) S) :
    Ctr Try.prog 81 [eDiagram d, eL (AV.int .i64) at1, AV.int .i64 i] S R := by
  unfold diagram_checkNode_W at h
  refine enterT Try.func81 rfl Try.ntmps81 Try.results81 (by kernel_rfl) (fun rg hrg => ?_)
  refine qZ (rZ (wZ rg (o_box (v := eDiagram d) rfl rfl (kk := 3) rfl (by decide) (fun g1 => (asZ .niface rfl (nZ (qZ (rZ (wZ rg (o_faP td30 rfl rfl (by rw [sz28]; decide) rfl (wZ rg (o_loadB1 (atL (k := 3) rfl) sz28 ag28 rfl rfl (v := eL eDNode d.Nodes) rfl (mvZ (.int .i64 i) rfl (wZ rg (o_idxL td28 sz97 (by decide) (fun _ => rfl) rfl rfl h.1 ?_)))))))))))))))
  replace h := h.2
  refine wZ rg (o_loadIA sz97 (by decide) ag97 rfl rfl (v := eDNode (at' d.Nodes i)) rfl (wZ rg (o_alloc zav97 ok97 (kk := 3) rfl (fun g2 => (wZ rg (o_storeB (atL (k := 7) rfl) sz97 (by decide) rfl (w := eDNode (at' d.Nodes i)) rfl rfl rfl (v := eDNode (at' d.Nodes i)) rfl setL (nZ (qZ ?_))))))))
  refine Vc.blk ?_
  obtain ⟨J, h, hJ⟩ := h
  refine Vc.join' (σ := ((Bool) × (Nat × Nat))) (fun y => J y.1) (fun y => envOf [(1, eL (AV.int .i64) at1), (3, .ptr rg 3 y.2.1 0 0), (7, .ptr rg 7 y.2.2 0 0), (15, .bool y.1)]) (fun y => stL S rg [(3, .arr 3 [eDiagram d], y.2.1), (7, .arr 3 [eDNode (at' d.Nodes i)], y.2.2)]) (fun y h => ?_) ?_
  · obtain ⟨x, ⟨g3, g4⟩⟩ := y
    replace h := hJ x h
    show Vc _ _ _ _ (envOf [(1, eL (AV.int .i64) at1), (3, .ptr rg 3 g3 0 0), (7, .ptr rg 7 g4 0 0), (15, .bool x)]) (stL S rg [(3, .arr 3 [eDiagram d], g3), (7, .arr 3 [eDNode (at' d.Nodes i)], g4)])
    refine Vc.cond' rfl (fun hb => ?_) (fun hb => ?_)
    · replace h := h.1 hb
      refine qZ (rZ (wZ rg (o_iface (by rw [td73]; trivial) (v := .int .i64 10) rfl (asZ (.iface 73 (.int .i64 10)) rfl (nZ ?_)))))
      refine Vc.ret' ?_
      refine res_tmp (v := .iface 73 (.int .i64 10)) rfl (res_nil ?_)
      show Gives _ (.iface 73 (.int .i64 10)) _
      exact gives_out hrg (VW.refl _) (hQ _ h)
    replace h := h.2 hb
    refine qZ (rZ (wZ rg (o_faP td97 rfl rfl (by rw [sz3]; decide) rfl (wZ rg (o_loadB1 (atL (k := 7) rfl) sz3 ag3 rfl rfl (v := .int .i64 ((at' d.Nodes i).Lo)) rfl (wZ rg (o_faP td97 rfl rfl (by rw [sz3]; decide) rfl (wZ rg (o_loadB1 (atL (k := 7) rfl) sz3 ag3 rfl rfl (v := .int .i64 ((at' d.Nodes i).Hi)) rfl (wZ rg (o_eql rfl rfl (asZ (.bool ((at' d.Nodes i).Lo == (at' d.Nodes i).Hi)) rfl (nZ ?_)))))))))))))
    refine Vc.cond' rfl (fun hb1 => ?_) (fun hb1 => ?_)
    · replace h := h.1 hb1
      refine qZ (rZ (wZ rg (o_iface (by rw [td73]; trivial) (v := .int .i64 2) rfl (asZ (.iface 73 (.int .i64 2)) rfl (nZ ?_)))))
      refine Vc.ret' ?_
      refine res_tmp (v := .iface 73 (.int .i64 2)) rfl (res_nil ?_)
      show Gives _ (.iface 73 (.int .i64 2)) _
      exact gives_out hrg (VW.refl _) (hQ _ h)
    replace h := h.2 hb1
    refine Vc.skip' ?_
    refine qZ (qZ (rZ (wZ rg (o_faP td97 rfl rfl (by rw [sz3]; decide) rfl (wZ rg (o_loadB1 (atL (k := 7) rfl) sz3 ag3 rfl rfl (v := .int .i64 ((at' d.Nodes i).Lo)) rfl (wZ rg (o_faP td97 rfl rfl (by rw [sz3]; decide) rfl (wZ rg (o_loadB1 (atL (k := 7) rfl) sz3 ag3 rfl rfl (v := .int .i64 ((at' d.Nodes i).Hi)) rfl ?_))))))))))
    refine wZ rg (o_bslice td25 ok3 zav3 (es := [.int .i64 ((at' d.Nodes i).Lo), .int .i64 ((at' d.Nodes i).Hi)]) rfl (kk := 1) rfl rfl rfl rfl rfl rfl (fun g5 => (wZ rg (o_lenR td25 rfl (mvZ (.int .i64 0) rfl (nZ ?_))))))
    refine Vc.blk ?_
    obtain ⟨I, μ, h0, hI⟩ := h
    refine Vc.loop' (σ := ((Int) × (Nat × Nat × Nat))) (fun y => I y.1) (fun y => μ y.1) (fun y => envOf [(1, eL (AV.int .i64) at1), (3, .ptr rg 3 y.2.1 0 0), (7, .ptr rg 7 y.2.2.1 0 0), (57, .sl 1 rg 57 y.2.2.2 0 ([(at' d.Nodes i).Lo, (at' d.Nodes i).Hi].length)), (58, .int .i64 ([(at' d.Nodes i).Lo, (at' d.Nodes i).Hi].length : Int)), (59, .int .i64 y.1)]) (fun y => stL S rg [(3, .arr 3 [eDiagram d], y.2.1), (7, .arr 3 [eDNode (at' d.Nodes i)], y.2.2.1), (57, .arr 1 (List.map (AV.int .i64) [(at' d.Nodes i).Lo, (at' d.Nodes i).Hi]), y.2.2.2)]) (0, (g3, g4, g5)) (canon (fc vr (fc vr (fc vr (fc vr (fc vr (fc vr (fn))))))) (sc rfl (sc rfl (sc rfl (sn))))) h0 (fun y h => ?_)
    obtain ⟨x1, ⟨g6, g7, g8⟩⟩ := y
    replace h := hI x1 h
    show Vc _ _ _ _ (envOf [(1, eL (AV.int .i64) at1), (3, .ptr rg 3 g6 0 0), (7, .ptr rg 7 g7 0 0), (57, .sl 1 rg 57 g8 0 ([(at' d.Nodes i).Lo, (at' d.Nodes i).Hi].length)), (58, .int .i64 ([(at' d.Nodes i).Lo, (at' d.Nodes i).Hi].length : Int)), (59, .int .i64 x1)]) (stL S rg [(3, .arr 3 [eDiagram d], g6), (7, .arr 3 [eDNode (at' d.Nodes i)], g7), (57, .arr 1 (List.map (AV.int .i64) [(at' d.Nodes i).Lo, (at' d.Nodes i).Hi]), g8)])
    refine qZ (rZ (wZ rg (o_lss rfl rfl (nZ (qZ ?_)))))
    refine Vc.cond' rfl (fun hb2 => ?_) (fun hb2 => ?_)
    · replace h := h.1 hb2
      refine Vc.skip' ?_
      refine qZ ?_
      refine Vc.blk ?_
      refine qZ (rZ (wZ rg (o_idxR0 td25 sz3 (by decide) rfl rfl h.1 ?_)))
      have hi := h.1
      replace h := h.2
      refine wZ rg (o_loadR1 (atL (k := 57) rfl) sz3 ag3 rfl (lt_of hi (by first | rfl | omega | (simp only [go_sem] <;> omega))) rfl (v := .int .i64 (at' [(at' d.Nodes i).Lo, (at' d.Nodes i).Hi] x1)) rfl ?_)
      obtain ⟨r, hs⟩ : ∃ qz : Int, qz = (at' [(at' d.Nodes i).Lo, (at' d.Nodes i).Hi] x1) := ⟨_, rfl⟩
      replace h := h r hs
      refine wZ rg (o_assign (v := .int .i64 r) (by subst hs; rfl) (nZ ?_))
      obtain ⟨J, h, hJ⟩ := h
      refine Vc.join' (σ := ((Bool) × (Nat × Nat × Nat))) (fun y => J y.1) (fun y => envOf [(1, eL (AV.int .i64) at1), (3, .ptr rg 3 y.2.1 0 0), (7, .ptr rg 7 y.2.2.1 0 0), (57, .sl 1 rg 57 y.2.2.2 0 ([(at' d.Nodes i).Lo, (at' d.Nodes i).Hi].length)), (58, .int .i64 ([(at' d.Nodes i).Lo, (at' d.Nodes i).Hi].length : Int)), (59, .int .i64 x1), (82, .bool y.1)]) (fun y => stL S rg [(3, .arr 3 [eDiagram d], y.2.1), (7, .arr 3 [eDNode (at' d.Nodes i)], y.2.2.1), (57, .arr 1 (List.map (AV.int .i64) [(at' d.Nodes i).Lo, (at' d.Nodes i).Hi]), y.2.2.2)]) (fun y h => ?_) ?_
      · obtain ⟨x2, ⟨g9, g10, g11⟩⟩ := y
        replace h := hJ x2 h
        show Vc _ _ _ _ (envOf [(1, eL (AV.int .i64) at1), (3, .ptr rg 3 g9 0 0), (7, .ptr rg 7 g10 0 0), (57, .sl 1 rg 57 g11 0 ([(at' d.Nodes i).Lo, (at' d.Nodes i).Hi].length)), (58, .int .i64 ([(at' d.Nodes i).Lo, (at' d.Nodes i).Hi].length : Int)), (59, .int .i64 x1), (82, .bool x2)]) (stL S rg [(3, .arr 3 [eDiagram d], g9), (7, .arr 3 [eDNode (at' d.Nodes i)], g10), (57, .arr 1 (List.map (AV.int .i64) [(at' d.Nodes i).Lo, (at' d.Nodes i).Hi]), g11)])
        refine Vc.cond' rfl (fun hb3 => ?_) (fun hb3 => ?_)
        · replace h := h.1 hb3
          refine qZ (rZ (wZ rg (o_iface (by rw [td73]; trivial) (v := .int .i64 13) rfl (asZ (.iface 73 (.int .i64 13)) rfl (nZ ?_)))))
          refine Vc.ret' ?_
          refine res_tmp (v := .iface 73 (.int .i64 13)) rfl (res_nil ?_)
          show Gives _ (.iface 73 (.int .i64 13)) _
          exact gives_out hrg (VW.refl _) (hQ _ h)
        replace h := h.2 hb3
        refine Vc.skip' ?_
        refine rZ ?_
        refine wZ rg (o_addG rfl rfl h.1 ?_)
        replace h := h.2
        refine mvZ (.int .i64 (x1 + 1)) rfl (nZ ?_)
        exact ⟨((x1 + 1), (g9, g10, g11)), (canon (fc vr (fc vr (fc vr (fc vr (fc vr (fc vr (fn))))))) (sc rfl (sc rfl (sc rfl (sn))))), h⟩
      rcases Bool.eq_false_or_eq_true (decide (2 ≤ r)) with hb4 | hb4
      · replace h := h.1 hb4
        have hg := h.1
        replace h := h.2
        have hg1 := h.1
        replace h := h.2
        have hg2 := h.1
        replace h := h.2
        have hg3 := h.1
        replace h := h.2
        refine Vc.drawn' mixed rg (fun _ => jcr2) (by kernel_rfl) ?_
        refine dP rfl rfl (o_move (v := .int .i64 r) rfl (dP rfl rfl (o_geq rfl rfl (dP rfl rfl (o_move (v := .bool (decide (2 ≤ r))) rfl ?_)))))
        refine dGT rfl rfl hb4 ?_
        refine dP rfl rfl (o_move (v := eL (AV.int .i64) at1) rfl ?_)
        refine dGT rfl rfl rfl ?_
        refine dP rfl rfl (o_faP td30 rfl rfl (by rw [sz28]; decide) rfl ?_)
        refine dGT rfl rfl rfl ?_
        refine dL (E := ([(rg, 3)], [])) rfl rfl (by simp) (cfn) (o_loadB1 (atL (k := 3) rfl) sz28 ag28 rfl rfl (v := eL eDNode d.Nodes) rfl ?_)
        refine dGT rfl rfl rfl ?_
        refine dP rfl rfl (o_move (v := .int .i64 r) rfl ?_)
        refine dGT rfl rfl rfl ?_
        refine dP rfl rfl (o_subG rfl rfl hg ?_)
        refine dGT rfl rfl rfl ?_
        refine dP rfl rfl (o_idxL td28 sz97 (by decide) (fun _ => rfl) rfl rfl hg1 ?_)
        refine dGT rfl rfl rfl ?_
        refine dP rfl rfl (o_fa td97 rfl rfl (by rw [sz3]; decide) rfl rfl ?_)
        refine dGT rfl rfl rfl ?_
        refine dP rfl rfl (o_loadI1 sz3 ag3 rfl rfl (v := .int .i64 ((at' d.Nodes (r - 2)).Var)) rfl ?_)
        refine dGT rfl rfl rfl ?_
        refine dP rfl rfl (o_idxL td25 sz3 (by decide) (fun _ => rfl) rfl rfl hg2 ?_)
        refine dGT rfl rfl rfl ?_
        refine dP rfl rfl (o_loadI1 sz3 ag3 rfl rfl (v := .int .i64 (at' at1 ((at' d.Nodes (r - 2)).Var))) rfl ?_)
        refine dGT rfl rfl rfl ?_
        refine dP rfl rfl (o_move (v := eL (AV.int .i64) at1) rfl ?_)
        refine dGT rfl rfl rfl ?_
        refine dP rfl rfl (o_faP td97 rfl rfl (by rw [sz3]; decide) rfl ?_)
        refine dGT rfl rfl rfl ?_
        refine dL (E := ([(rg, 7)], [])) rfl rfl (by simp) (cfa (by simp [apartE]) (cfn)) (o_loadB1 (atL (k := 7) rfl) sz3 ag3 rfl rfl (v := .int .i64 ((at' d.Nodes i).Var)) rfl ?_)
        refine dGT rfl rfl rfl ?_
        refine dP rfl rfl (o_idxL td25 sz3 (by decide) (fun _ => rfl) rfl rfl hg3 ?_)
        refine dGT rfl rfl rfl ?_
        refine dP rfl rfl (o_loadI1 sz3 ag3 rfl rfl (v := .int .i64 (at' at1 ((at' d.Nodes i).Var))) rfl ?_)
        refine dGT rfl rfl rfl ?_
        refine dP rfl rfl (o_leq rfl rfl (dP rfl rfl (o_pickT rfl rfl (v := .bool (decide ((at' at1 ((at' d.Nodes (r - 2)).Var)) ≤ (at' at1 ((at' d.Nodes i).Var))))) rfl (dN ?_))))
        exact ⟨((decide ((at' at1 ((at' d.Nodes (r - 2)).Var)) ≤ (at' at1 ((at' d.Nodes i).Var)))), (g6, g7, g8)), (canon (fc vr (fc vr (fc vr (fc vr (fc vr (fc vr (fc vr (fn)))))))) (sc rfl (sc rfl (sc rfl (sn))))), h⟩
      replace h := h.2 hb4
      refine Vc.drawn' mixed rg (fun _ => jcr2) (by kernel_rfl) ?_
      refine dP rfl rfl (o_move (v := .int .i64 r) rfl (dP rfl rfl (o_geq rfl rfl (dP rfl rfl (o_move (v := .bool (decide (2 ≤ r))) rfl ?_)))))
      refine dGF rfl rfl hb4 rfl ?_
      refine dGF rfl rfl rfl rfl ?_
      refine dGF rfl rfl rfl rfl ?_
      refine dGF rfl rfl rfl rfl ?_
      refine dGF rfl rfl rfl rfl ?_
      refine dGF rfl rfl rfl rfl ?_
      refine dGF rfl rfl rfl rfl ?_
      refine dGF rfl rfl rfl rfl ?_
      refine dGF rfl rfl rfl rfl ?_
      refine dGF rfl rfl rfl rfl ?_
      refine dGF rfl rfl rfl rfl ?_
      refine dGF rfl rfl rfl rfl ?_
      refine dGF rfl rfl rfl rfl ?_
      refine dGF rfl rfl rfl rfl ?_
      refine dGF rfl rfl rfl rfl ?_
      refine dGF rfl rfl rfl rfl ?_
      refine dP rfl rfl (o_pickF rfl rfl (v := .bool false) rfl (dN ?_))
      exact ⟨(false, (g6, g7, g8)), (canon (fc vr (fc vr (fc vr (fc vr (fc vr (fc vr (fc vr (fn)))))))) (sc rfl (sc rfl (sc rfl (sn))))), h⟩
    replace h := h.2 hb2
    refine Vc.exit' (exB_self ?_)
    refine qZ (rZ (asZ .niface rfl (nZ ?_)))
    refine Vc.ret' ?_
    refine res_tmp (v := .niface) rfl (res_nil ?_)
    show Gives _ .niface _
    exact gives_out hrg (VW.refl _) (hQ _ h)
  refine rZ ?_
  refine wZ rg (o_faP td97 rfl rfl (by rw [sz3]; decide) rfl (wZ rg (o_loadB1 (atL (k := 7) rfl) sz3 ag3 rfl rfl (v := .int .i64 ((at' d.Nodes i).Var)) rfl (wZ rg (o_lss rfl rfl (mvZ (.bool (decide ((at' d.Nodes i).Var < 0))) rfl ?_))))))
  refine Wl.guard rfl rfl (fun hb5 => ?_) (fun hb5 => ?_)
  · replace h := h.2 hb5
    refine wZ rg (o_faP td97 rfl rfl (by rw [sz3]; decide) rfl ?_)
    refine Wl.guardT rfl rfl hb5 ?_
    refine wZ rg (o_loadB1 (atL (k := 7) rfl) sz3 ag3 rfl rfl (v := .int .i64 ((at' d.Nodes i).Var)) rfl ?_)
    refine Wl.guardT rfl rfl hb5 ?_
    refine wZ rg (o_faP td30 rfl rfl (by rw [sz25]; decide) rfl ?_)
    refine Wl.guardT rfl rfl hb5 ?_
    refine wZ rg (o_loadB1 (atL (k := 3) rfl) sz25 ag25 rfl rfl (v := eL (AV.int .i64) d.Order) rfl ?_)
    refine Wl.guardT rfl rfl hb5 ?_
    refine wZ rg (o_len td25 rfl ?_)
    refine Wl.guardT rfl rfl hb5 ?_
    refine wZ rg (o_geq rfl rfl (wZ rg (o_pickF rfl hb5 (v := .bool (decide ((d.Order.length : Int) ≤ (at' d.Nodes i).Var))) rfl (mvZ (.bool (decide ((d.Order.length : Int) ≤ (at' d.Nodes i).Var))) rfl ?_))))
    refine Wl.guard rfl rfl (fun hb6 => ?_) (fun hb6 => ?_)
    · replace h := h.2 hb6
      refine wZ rg (o_faP td97 rfl rfl (by rw [sz3]; decide) rfl ?_)
      refine Wl.guardT rfl rfl hb6 ?_
      refine wZ rg (o_loadB1 (atL (k := 7) rfl) sz3 ag3 rfl rfl (v := .int .i64 ((at' d.Nodes i).Lo)) rfl ?_)
      refine Wl.guardT rfl rfl hb6 ?_
      refine wZ rg (o_faP td97 rfl rfl (by rw [sz3]; decide) rfl ?_)
      refine Wl.guardT rfl rfl hb6 ?_
      refine wZ rg (o_loadB1 (atL (k := 7) rfl) sz3 ag3 rfl rfl (v := .int .i64 ((at' d.Nodes i).Hi)) rfl ?_)
      refine Wl.guardT rfl rfl hb6 ?_
      refine wZ rg (o_min rfl rfl ?_)
      refine Wl.guardT rfl rfl hb6 ?_
      refine wZ rg (o_lss rfl rfl (wZ rg (o_pickF rfl hb6 (v := .bool (decide ((min ((at' d.Nodes i).Lo) ((at' d.Nodes i).Hi)) < 0))) rfl (mvZ (.bool (decide ((min ((at' d.Nodes i).Lo) ((at' d.Nodes i).Hi)) < 0))) rfl ?_))))
      refine Wl.guard rfl rfl (fun hb7 => ?_) (fun hb7 => ?_)
      · replace h := h.2 hb7
        refine wZ rg (o_faP td97 rfl rfl (by rw [sz3]; decide) rfl ?_)
        refine Wl.guardT rfl rfl hb7 ?_
        refine wZ rg (o_loadB1 (atL (k := 7) rfl) sz3 ag3 rfl rfl (v := .int .i64 ((at' d.Nodes i).Lo)) rfl ?_)
        refine Wl.guardT rfl rfl hb7 ?_
        refine wZ rg (o_faP td97 rfl rfl (by rw [sz3]; decide) rfl ?_)
        refine Wl.guardT rfl rfl hb7 ?_
        refine wZ rg (o_loadB1 (atL (k := 7) rfl) sz3 ag3 rfl rfl (v := .int .i64 ((at' d.Nodes i).Hi)) rfl ?_)
        refine Wl.guardT rfl rfl hb7 ?_
        refine wZ rg (o_max rfl rfl ?_)
        refine Wl.guardT rfl rfl hb7 ?_
        refine mvZ (.int .i64 i) rfl ?_
        refine Wl.guardT rfl rfl hb7 ?_
        refine wZ rg (o_addG rfl rfl h.1 ?_)
        replace h := h.2
        refine Wl.guardT rfl rfl hb7 ?_
        refine wZ rg (o_gtr rfl rfl (wZ rg (o_pickF rfl hb7 (v := .bool (decide ((1 + i) < (max ((at' d.Nodes i).Lo) ((at' d.Nodes i).Hi))))) rfl (asZ (.bool (decide ((1 + i) < (max ((at' d.Nodes i).Lo) ((at' d.Nodes i).Hi))))) rfl (nZ ?_)))))
        exact ⟨((decide ((1 + i) < (max ((at' d.Nodes i).Lo) ((at' d.Nodes i).Hi)))), (g1, g2)), (canon (fc vr (fc vr (fc vr (fc vr (fn))))) (sc rfl (sc rfl (sn)))), h⟩
      replace h := h.1 hb7
      refine Wl.guardF rfl rfl hb7 rfl ?_
      refine Wl.guardF rfl rfl hb7 rfl ?_
      refine Wl.guardF rfl rfl hb7 rfl ?_
      refine Wl.guardF rfl rfl hb7 rfl ?_
      refine Wl.guardF rfl rfl hb7 rfl ?_
      refine Wl.guardF rfl rfl hb7 rfl ?_
      refine Wl.guardF rfl rfl hb7 rfl ?_
      refine wZ rg (o_pickT rfl hb7 (v := .bool true) rfl (asZ (.bool true) rfl (nZ ?_)))
      exact ⟨(true, (g1, g2)), (canon (fc vr (fc vr (fc vr (fc vr (fn))))) (sc rfl (sc rfl (sn)))), h⟩
    replace h := h.1 hb6
    refine Wl.guardF rfl rfl hb6 rfl ?_
    refine Wl.guardF rfl rfl hb6 rfl ?_
    refine Wl.guardF rfl rfl hb6 rfl ?_
    refine Wl.guardF rfl rfl hb6 rfl ?_
    refine Wl.guardF rfl rfl hb6 rfl ?_
    refine wZ rg (o_pickT rfl hb6 (v := .bool true) rfl (mvZ (.bool true) rfl ?_))
    refine Wl.guardF rfl rfl rfl rfl ?_
    refine Wl.guardF rfl rfl rfl rfl ?_
    refine Wl.guardF rfl rfl rfl rfl ?_
    refine Wl.guardF rfl rfl rfl rfl ?_
    refine Wl.guardF rfl rfl rfl rfl ?_
    refine Wl.guardF rfl rfl rfl rfl ?_
    refine Wl.guardF rfl rfl rfl rfl ?_
    refine Wl.guardF rfl rfl rfl rfl ?_
    refine wZ rg (o_pickT rfl rfl (v := .bool true) rfl (asZ (.bool true) rfl (nZ ?_)))
    exact ⟨(true, (g1, g2)), (canon (fc vr (fc vr (fc vr (fc vr (fn))))) (sc rfl (sc rfl (sn)))), h⟩
  replace h := h.1 hb5
  refine Wl.guardF rfl rfl hb5 rfl ?_
  refine Wl.guardF rfl rfl hb5 rfl ?_
  refine Wl.guardF rfl rfl hb5 rfl ?_
  refine Wl.guardF rfl rfl hb5 rfl ?_
  refine Wl.guardF rfl rfl hb5 rfl ?_
  refine wZ rg (o_pickT rfl hb5 (v := .bool true) rfl (mvZ (.bool true) rfl ?_))
  refine Wl.guardF rfl rfl rfl rfl ?_
  refine Wl.guardF rfl rfl rfl rfl ?_
  refine Wl.guardF rfl rfl rfl rfl ?_
  refine Wl.guardF rfl rfl rfl rfl ?_
  refine Wl.guardF rfl rfl rfl rfl ?_
  refine Wl.guardF rfl rfl rfl rfl ?_
  refine wZ rg (o_pickT rfl rfl (v := .bool true) rfl (mvZ (.bool true) rfl ?_))
  refine Wl.guardF rfl rfl rfl rfl ?_
  refine Wl.guardF rfl rfl rfl rfl ?_
  refine Wl.guardF rfl rfl rfl rfl ?_
  refine Wl.guardF rfl rfl rfl rfl ?_
  refine Wl.guardF rfl rfl rfl rfl ?_
  refine Wl.guardF rfl rfl rfl rfl ?_
  refine Wl.guardF rfl rfl rfl rfl ?_
  refine Wl.guardF rfl rfl rfl rfl ?_
  refine wZ rg (o_pickT rfl rfl (v := .bool true) rfl (asZ (.bool true) rfl (nZ ?_)))
  exact ⟨(true, (g1, g2)), (canon (fc vr (fc vr (fc vr (fc vr (fn))))) (sc rfl (sc rfl (sn)))), h⟩
theorem diagram_numbered_1__e_ctr {fu : Nat} : ∀ {r : Int} {u : GDiagram} {u1 : Bool} {u2 : Int} {u3 : List Bool} {q0 k0 g0 q1 k1 g1 q2 k2 g2 q3 k3 g3 q4 k4 g4 q5 k5 g5 : Nat} (_hdk : DK [(q0, k0), (q3, k3), (q4, k4), (q5, k5), (q1, k1), (q2, k2)]) {Q : Bool → Int → List Bool → Prop} {S : St} {R : AV → St → Prop} (_h : diagram_numbered_1__e_W fu r u u1 u2 u3 Q) (_hQ : ∀ r1 r2 r3, Q r1 r2 r3 → R (.tuple []) (stX S [(q0, k0, .arr 1 [.sl 1 q5 k5 g5 0 r3.length], g0), (q3, k3, .arr 1 [.bool r1], g3), (q4, k4, .arr 1 [.int .i64 r2], g4), (q5, k5, .arr 1 (List.map AV.bool r3), g5), (q1, k1, .arr 1 [.fn (.func 126) [] [.ptr q0 k0 g0 0 0, .ptr q1 k1 g1 0 0, .ptr q2 k2 g2 0 0, .ptr q3 k3 g3 0 0, .ptr q4 k4 g4 0 0]], g1), (q2, k2, .arr 3 [eDiagram u], g2)])),
    Ctr Try.prog 126 [AV.int .i64 r, .ptr q0 k0 g0 0 0, .ptr q1 k1 g1 0 0, .ptr q2 k2 g2 0 0, .ptr q3 k3 g3 0 0, .ptr q4 k4 g4 0 0] (stX S [(q0, k0, .arr 1 [.sl 1 q5 k5 g5 0 u3.length], g0), (q3, k3, .arr 1 [.bool u1], g3), (q4, k4, .arr 1 [.int .i64 u2], g4), (q5, k5, .arr 1 (List.map AV.bool u3), g5), (q1, k1, .arr 1 [.fn (.func 126) [] [.ptr q0 k0 g0 0 0, .ptr q1 k1 g1 0 0, .ptr q2 k2 g2 0 0, .ptr q3 k3 g3 0 0, .ptr q4 k4 g4 0 0]], g1), (q2, k2, .arr 3 [eDiagram u], g2)]) R := by
  induction fu with
  | zero =>
    intro r u u1 u2 u3 q0 k0 g0 q1 k1 g1 q2 k2 g2 q3 k3 g3 q4 k4 g4 q5 k5 g5 hdk Q S R h hQ
    exact False.elim h
  | succ fu ih =>
  intro r u u1 u2 u3 q0 k0 g0 q1 k1 g1 q2 k2 g2 q3 k3 g3 q4 k4 g4 q5 k5 g5 hdk Q S R h hQ
  rw [diagram_numbered_1__e_W] at h
  refine enterT Try.func126 rfl Try.ntmps126 Try.results126 (by kernel_rfl) (fun rg hrg => ?_)
  have hdx : DX [(q0, k0, .arr 1 [.sl 1 q5 k5 g5 0 u3.length], g0), (q3, k3, .arr 1 [.bool u1], g3), (q4, k4, .arr 1 [.int .i64 u2], g4), (q5, k5, .arr 1 (List.map AV.bool u3), g5), (q1, k1, .arr 1 [.fn (.func 126) [] [.ptr q0 k0 g0 0 0, .ptr q1 k1 g1 0 0, .ptr q2 k2 g2 0 0, .ptr q3 k3 g3 0 0, .ptr q4 k4 g4 0 0]], g1), (q2, k2, .arr 3 [eDiagram u], g2)] := hdk
  have hfr := fun X' e => fresh_set (S := S) (rg := rg) (X := [(q0, k0, .arr 1 [.sl 1 q5 k5 g5 0 u3.length], g0), (q3, k3, .arr 1 [.bool u1], g3), (q4, k4, .arr 1 [.int .i64 u2], g4), (q5, k5, .arr 1 (List.map AV.bool u3), g5), (q1, k1, .arr 1 [.fn (.func 126) [] [.ptr q0 k0 g0 0 0, .ptr q1 k1 g1 0 0, .ptr q2 k2 g2 0 0, .ptr q3 k3 g3 0 0, .ptr q4 k4 g4 0 0]], g1), (q2, k2, .arr 3 [eDiagram u], g2)]) (X' := X') e hrg
  have hne0 := fresh_ne hdx hrg 0 rfl
  have hne3 := fresh_ne hdx hrg 1 rfl
  have hne4 := fresh_ne hdx hrg 2 rfl
  have hne5 := fresh_ne hdx hrg 3 rfl
  have hne1 := fresh_ne hdx hrg 4 rfl
  have hne2 := fresh_ne hdx hrg 5 rfl
  refine qZ (qZ (rZ (mvZ (.int .i64 r) rfl (wZ rg (o_lss rfl rfl (mvZ (.bool (decide (r < 2))) rfl ?_))))))
  refine Wl.guard rfl rfl (fun hb => ?_) (fun hb => ?_)
  · replace h := h.2 hb
    refine wZ rg (o_loadB1 (atX hne0 hdx 0 rfl) sz110 ag110 rfl rfl (v := .sl 1 q5 k5 g5 0 u3.length) rfl ?_)
    refine Wl.guardT rfl rfl hb ?_
    refine mvZ (.int .i64 r) rfl ?_
    refine Wl.guardT rfl rfl hb ?_
    refine wZ rg (o_subG rfl rfl h.1 ?_)
    replace h := h.2
    refine Wl.guardT rfl rfl hb ?_
    refine wZ rg (o_idxR0 td110 sz4 (by decide) rfl rfl h.1 ?_)
    have hi := h.1
    replace h := h.2
    refine Wl.guardT rfl rfl hb ?_
    refine wZ rg (o_loadR1 (atX hne5 hdx 3 rfl) sz4 ag4 rfl (lt_of hi (by first | rfl | omega | (simp only [go_sem] <;> omega))) rfl (v := .bool (at' u3 (r - 2))) rfl (wZ rg (o_pickF rfl hb (v := .bool (at' u3 (r - 2))) rfl (nZ ?_))))
    refine Vc.cond' rfl (fun hb1 => ?_) (fun hb1 => ?_)
    · replace h := h.1 hb1
      refine Vc.ret' ?_
      refine res_nil ?_
      show Gives _ (.tuple []) _
      exact gives_out (hfr _ rfl) (VW.refl _) (hQ _ _ _ h)
    replace h := h.2 hb1
    refine Vc.skip' ?_
    refine qZ (rZ (wZ rg (o_loadB1 (atX hne0 hdx 0 rfl) sz110 ag110 rfl rfl (v := .sl 1 q5 k5 g5 0 u3.length) rfl (mvZ (.int .i64 r) rfl (wZ rg (o_subG rfl rfl h.1 ?_))))))
    replace h := h.2
    refine wZ rg (o_idxR0 td110 sz4 (by decide) rfl rfl h.1 ?_)
    have hi1 := h.1
    replace h := h.2
    refine wZ rg (o_storeR1 (atX hne5 hdx 3 rfl) sz4 (by decide) (x' := true) (fun _ => rfl) rfl rfl (lt_of hi1 (by first | rfl | omega | (simp only [go_sem] <;> omega))) rfl rfl (setX hne5 hdx 3 rfl rfl) (nZ (qZ ?_)))
    have hg := h.1
    replace h := h.2
    have hg1 := h.1
    replace h := h.2
    obtain ⟨u4, u5, u6, hc, hl, h⟩ := h
    refine Vc.drawn' mixed rg (usOf [(8, wc (fun _ => .tuple []) [(q1, k1), (q2, k2)] [(q0, k0), (q3, k3), (q4, k4), (q5, k5)] (fun _ => [(q0, k0, .arr 1 [.sl 1 q5 k5 g5 0 u6.length], g0), (q3, k3, .arr 1 [.bool u4], g3), (q4, k4, .arr 1 [.int .i64 u5], g4), (q5, k5, .arr 1 (List.map AV.bool u6), g5)]))]) (by kernel_rfl) ?_
    refine dL (E := ([(q1, k1)], [])) rfl rfl (by simp) (cfn) (o_loadB1 (atX hne1 hdx 4 rfl) sz157 ag157 rfl rfl (v := .fn (.func 126) [] [.ptr q0 k0 g0 0 0, .ptr q1 k1 g1 0 0, .ptr q2 k2 g2 0 0, .ptr q3 k3 g3 0 0, .ptr q4 k4 g4 0 0]) rfl (dP rfl rfl (o_faP td30 rfl rfl (by rw [sz28]; decide) rfl ?_)))
    refine dL (E := ([(q2, k2)], [])) rfl rfl (by simp) (cfa (by simp [apartE]) (cfn)) (o_loadB1 (atX hne2 hdx 5 rfl) sz28 ag28 rfl rfl (v := eL eDNode u.Nodes) rfl (dP rfl rfl (o_move (v := .int .i64 r) rfl (dP rfl rfl (o_subG rfl rfl hg (dP rfl rfl (o_idxL td28 sz97 (by decide) (fun _ => rfl) rfl rfl hg1 (dP rfl rfl (o_fa td97 rfl rfl (by rw [sz3]; decide) rfl rfl ?_)))))))))
    refine dP rfl rfl (o_loadI1 sz3 ag3 rfl rfl (v := .int .i64 ((at' u.Nodes (r - 2)).Lo)) rfl ?_)
    refine vdT.eqS (congrArg (fun nQ => stL (stX S [(q0, k0, .arr 1 [.sl 1 q5 k5 g5 0 nQ], g0), (q3, k3, .arr 1 [.bool u1], g3), (q4, k4, .arr 1 [.int .i64 u2], g4), (q5, k5, .arr 1 (List.map AV.bool (set' u3 (r - 2) true)), g5), (q1, k1, .arr 1 [.fn (.func 126) [] [.ptr q0 k0 g0 0 0, .ptr q1 k1 g1 0 0, .ptr q2 k2 g2 0 0, .ptr q3 k3 g3 0 0, .ptr q4 k4 g4 0 0]], g1), (q2, k2, .arr 3 [eDiagram u], g2)]) rg []) (show u3.length = (set' u3 (r - 2) true).length from by first | rfl | omega | (simp only [go_sem] <;> omega))) ?_
    refine dCE (vs := [AV.int .i64 ((at' u.Nodes (r - 2)).Lo), .ptr q0 k0 g0 0 0, .ptr q1 k1 g1 0 0, .ptr q2 k2 g2 0 0, .ptr q3 k3 g3 0 0, .ptr q4 k4 g4 0 0]) (V := fun _ => .tuple []) (rd := [(q1, k1), (q2, k2)]) (wk := [(q0, k0), (q3, k3), (q4, k4), (q5, k5)]) (wr := fun _ => [(q0, k0, .arr 1 [.sl 1 q5 k5 g5 0 u6.length], g0), (q3, k3, .arr 1 [.bool u4], g3), (q4, k4, .arr 1 [.int .i64 u5], g4), (q5, k5, .arr 1 (List.map AV.bool u6), g5)]) rfl (vl' vr (vl' vr (vl' vr (vl' vr (vl' vr (vl' vr (vn))))))) rfl (cfo (by kernel_rfl) (cfo (by kernel_rfl) (cfn))) (by simp) (fun _ => rfl) (fun S' hA hB => ctrX (sx_c (ag hB 0 rfl (atX hne0 hdx 0 rfl)) (sx_c (ag hB 1 rfl (atX hne3 hdx 1 rfl)) (sx_c (ag hB 2 rfl (atX hne4 hdx 2 rfl)) (sx_c (ag hB 3 rfl (atX hne5 hdx 3 rfl)) (sx_c (ag hA 0 rfl (atX hne1 hdx 4 rfl)) (sx_c (ag hA 1 rfl (atX hne2 hdx 5 rfl)) (sx_n))))))) (ih (dk_c (ni_c (dk_at 0 1 hdk rfl rfl rfl) (ni_c (dk_at 0 2 hdk rfl rfl rfl) (ni_c (dk_at 0 3 hdk rfl rfl rfl) (ni_c (dk_at 0 4 hdk rfl rfl rfl) (ni_c (dk_at 0 5 hdk rfl rfl rfl) (ni_n)))))) (dk_c (ni_c (dk_at 1 2 hdk rfl rfl rfl) (ni_c (dk_at 1 3 hdk rfl rfl rfl) (ni_c (dk_at 1 4 hdk rfl rfl rfl) (ni_c (dk_at 1 5 hdk rfl rfl rfl) (ni_n))))) (dk_c (ni_c (dk_at 2 3 hdk rfl rfl rfl) (ni_c (dk_at 2 4 hdk rfl rfl rfl) (ni_c (dk_at 2 5 hdk rfl rfl rfl) (ni_n)))) (dk_c (ni_c (dk_at 3 4 hdk rfl rfl rfl) (ni_c (dk_at 3 5 hdk rfl rfl rfl) (ni_n))) (dk_c (ni_c (dk_at 4 5 hdk rfl rfl rfl) (ni_n)) (dk_c (ni_n) (dk_n))))))) hc (fun _ _ _ he => by obtain ⟨rfl, rfl, rfl⟩ := he; exact ⟨fun i => ([] : List Nat).getD i 0, rfl, sm_c (sm_c (sm_c (sm_c (sx_c (ag hA 0 rfl (atX hne1 hdx 4 rfl)) (sx_c (ag hA 1 rfl (atX hne2 hdx 5 rfl)) (sx_n))))))⟩))) (fun _ => ?_)
    refine vdT.eqS (sa_c (sa_c (sa_c (sa_c (sa_n) (setX hne5 hdx 3 rfl rfl)) (setX hne4 hdx 2 rfl rfl)) (setX hne3 hdx 1 rfl rfl)) (setX hne0 hdx 0 rfl rfl)) ?_
    refine dN ?_
    refine qZ ?_
    have hg2 := h.1
    replace h := h.2
    have hg3 := h.1
    replace h := h.2
    obtain ⟨u7, u8, u9, hc1, hl1, h⟩ := h
    refine Vc.drawn' mixed rg (usOf [(8, wc (fun _ => .tuple []) [(q1, k1), (q2, k2)] [(q0, k0), (q3, k3), (q4, k4), (q5, k5)] (fun _ => [(q0, k0, .arr 1 [.sl 1 q5 k5 g5 0 u9.length], g0), (q3, k3, .arr 1 [.bool u7], g3), (q4, k4, .arr 1 [.int .i64 u8], g4), (q5, k5, .arr 1 (List.map AV.bool u9), g5)]))]) (by kernel_rfl) ?_
    refine dL (E := ([(q1, k1)], [])) rfl rfl (by simp) (cfn) (o_loadB1 (atX hne1 hdx 4 rfl) sz157 ag157 rfl rfl (v := .fn (.func 126) [] [.ptr q0 k0 g0 0 0, .ptr q1 k1 g1 0 0, .ptr q2 k2 g2 0 0, .ptr q3 k3 g3 0 0, .ptr q4 k4 g4 0 0]) rfl (dP rfl rfl (o_faP td30 rfl rfl (by rw [sz28]; decide) rfl ?_)))
    refine dL (E := ([(q2, k2)], [])) rfl rfl (by simp) (cfa (by simp [apartE]) (cfn)) (o_loadB1 (atX hne2 hdx 5 rfl) sz28 ag28 rfl rfl (v := eL eDNode u.Nodes) rfl (dP rfl rfl (o_move (v := .int .i64 r) rfl (dP rfl rfl (o_subG rfl rfl hg2 (dP rfl rfl (o_idxL td28 sz97 (by decide) (fun _ => rfl) rfl rfl hg3 (dP rfl rfl (o_fa td97 rfl rfl (by rw [sz3]; decide) rfl rfl ?_)))))))))
    refine dP rfl rfl (o_loadI1 sz3 ag3 rfl rfl (v := .int .i64 ((at' u.Nodes (r - 2)).Hi)) rfl ?_)
    refine dCE (vs := [AV.int .i64 ((at' u.Nodes (r - 2)).Hi), .ptr q0 k0 g0 0 0, .ptr q1 k1 g1 0 0, .ptr q2 k2 g2 0 0, .ptr q3 k3 g3 0 0, .ptr q4 k4 g4 0 0]) (V := fun _ => .tuple []) (rd := [(q1, k1), (q2, k2)]) (wk := [(q0, k0), (q3, k3), (q4, k4), (q5, k5)]) (wr := fun _ => [(q0, k0, .arr 1 [.sl 1 q5 k5 g5 0 u9.length], g0), (q3, k3, .arr 1 [.bool u7], g3), (q4, k4, .arr 1 [.int .i64 u8], g4), (q5, k5, .arr 1 (List.map AV.bool u9), g5)]) rfl (vl' vr (vl' vr (vl' vr (vl' vr (vl' vr (vl' vr (vn))))))) rfl (cfo (by kernel_rfl) (cfo (by kernel_rfl) (cfn))) (by simp) (fun _ => rfl) (fun S' hA hB => ctrX (sx_c (ag hB 0 rfl (atX hne0 hdx 0 rfl)) (sx_c (ag hB 1 rfl (atX hne3 hdx 1 rfl)) (sx_c (ag hB 2 rfl (atX hne4 hdx 2 rfl)) (sx_c (ag hB 3 rfl (atX hne5 hdx 3 rfl)) (sx_c (ag hA 0 rfl (atX hne1 hdx 4 rfl)) (sx_c (ag hA 1 rfl (atX hne2 hdx 5 rfl)) (sx_n))))))) (ih (dk_c (ni_c (dk_at 0 1 hdk rfl rfl rfl) (ni_c (dk_at 0 2 hdk rfl rfl rfl) (ni_c (dk_at 0 3 hdk rfl rfl rfl) (ni_c (dk_at 0 4 hdk rfl rfl rfl) (ni_c (dk_at 0 5 hdk rfl rfl rfl) (ni_n)))))) (dk_c (ni_c (dk_at 1 2 hdk rfl rfl rfl) (ni_c (dk_at 1 3 hdk rfl rfl rfl) (ni_c (dk_at 1 4 hdk rfl rfl rfl) (ni_c (dk_at 1 5 hdk rfl rfl rfl) (ni_n))))) (dk_c (ni_c (dk_at 2 3 hdk rfl rfl rfl) (ni_c (dk_at 2 4 hdk rfl rfl rfl) (ni_c (dk_at 2 5 hdk rfl rfl rfl) (ni_n)))) (dk_c (ni_c (dk_at 3 4 hdk rfl rfl rfl) (ni_c (dk_at 3 5 hdk rfl rfl rfl) (ni_n))) (dk_c (ni_c (dk_at 4 5 hdk rfl rfl rfl) (ni_n)) (dk_c (ni_n) (dk_n))))))) hc1 (fun _ _ _ he => by obtain ⟨rfl, rfl, rfl⟩ := he; exact ⟨fun i => ([] : List Nat).getD i 0, rfl, sm_c (sm_c (sm_c (sm_c (sx_c (ag hA 0 rfl (atX hne1 hdx 4 rfl)) (sx_c (ag hA 1 rfl (atX hne2 hdx 5 rfl)) (sx_n))))))⟩))) (fun _ => ?_)
    refine vdT.eqS (sa_c (sa_c (sa_c (sa_c (sa_n) (setX hne5 hdx 3 rfl rfl)) (setX hne4 hdx 2 rfl rfl)) (setX hne3 hdx 1 rfl rfl)) (setX hne0 hdx 0 rfl rfl)) ?_
    refine dN ?_
    obtain ⟨J, h, hJ⟩ := h
    refine Vc.join' (σ := (Bool)) (fun y => J y) (fun y => envOf [(5, .ptr q4 k4 g4 0 0)]) (fun y => stL (stX S [(q0, k0, .arr 1 [.sl 1 q5 k5 g5 0 u9.length], g0), (q3, k3, .arr 1 [.bool y], g3), (q4, k4, .arr 1 [.int .i64 u8], g4), (q5, k5, .arr 1 (List.map AV.bool u9), g5), (q1, k1, .arr 1 [.fn (.func 126) [] [.ptr q0 k0 g0 0 0, .ptr q1 k1 g1 0 0, .ptr q2 k2 g2 0 0, .ptr q3 k3 g3 0 0, .ptr q4 k4 g4 0 0]], g1), (q2, k2, .arr 3 [eDiagram u], g2)]) rg []) (fun x h => ?_) ?_
    · replace h := hJ x h
      show Vc _ _ _ _ (envOf [(5, .ptr q4 k4 g4 0 0)]) (stL (stX S [(q0, k0, .arr 1 [.sl 1 q5 k5 g5 0 u9.length], g0), (q3, k3, .arr 1 [.bool x], g3), (q4, k4, .arr 1 [.int .i64 u8], g4), (q5, k5, .arr 1 (List.map AV.bool u9), g5), (q1, k1, .arr 1 [.fn (.func 126) [] [.ptr q0 k0 g0 0 0, .ptr q1 k1 g1 0 0, .ptr q2 k2 g2 0 0, .ptr q3 k3 g3 0 0, .ptr q4 k4 g4 0 0]], g1), (q2, k2, .arr 3 [eDiagram u], g2)]) rg [])
      refine rZ ?_
      refine wZ rg (o_loadB1 (atX hne4 hdx 2 rfl) sz3 ag3 rfl rfl (v := .int .i64 u8) rfl (wZ rg (o_addG rfl rfl h.1 ?_)))
      replace h := h.2
      refine wZ rg (o_storeB (atX hne4 hdx 2 rfl) sz3 (by decide) rfl (w := .int .i64 (u8 + 1)) rfl rfl rfl (v := .int .i64 (u8 + 1)) rfl (setX hne4 hdx 2 rfl rfl) (nZ (res_nil ?_)))
      show Gives _ (.tuple []) _
      exact gives_out (hfr _ rfl) (VW.refl _) (hQ _ _ _ h)
    refine rZ ?_
    refine wZ rg (o_loadB1 (atX hne3 hdx 1 rfl) sz4 ag4 rfl rfl (v := .bool u7) rfl (mvZ (.bool u7) rfl ?_))
    refine Wl.guard rfl rfl (fun hb2 => ?_) (fun hb2 => ?_)
    · replace h := h.1 hb2
      refine mvZ (.int .i64 r) rfl ?_
      refine Wl.guardT rfl rfl hb2 ?_
      refine wZ rg (o_subG rfl rfl h.1 ?_)
      replace h := h.2
      refine Wl.guardT rfl rfl hb2 ?_
      refine wZ rg (o_loadB1 (atX hne4 hdx 2 rfl) sz3 ag3 rfl rfl (v := .int .i64 u8) rfl ?_)
      refine Wl.guardT rfl rfl hb2 ?_
      refine wZ rg (o_eql rfl rfl (wZ rg (o_pickT rfl hb2 (v := .bool ((r - 2) == u8)) rfl (wZ rg (o_storeB (atX hne3 hdx 1 rfl) sz4 (by decide) rfl (w := .bool ((r - 2) == u8)) rfl rfl rfl (v := .bool ((r - 2) == u8)) rfl (setX hne3 hdx 1 rfl rfl) (nZ ?_))))))
      exact ⟨((r - 2) == u8), (canon (fc vr (fn)) (sn)), h⟩
    replace h := h.2 hb2
    refine Wl.guardF rfl rfl hb2 rfl ?_
    refine Wl.guardF rfl rfl hb2 rfl ?_
    refine Wl.guardF rfl rfl hb2 rfl ?_
    refine wZ rg (o_pickF rfl hb2 (v := .bool false) rfl (wZ rg (o_storeB (atX hne3 hdx 1 rfl) sz4 (by decide) rfl (w := .bool false) rfl rfl rfl (v := .bool false) rfl (setX hne3 hdx 1 rfl rfl) (nZ ?_))))
    exact ⟨false, (canon (fc vr (fn)) (sn)), h⟩
  replace h := h.1 hb
  refine Wl.guardF rfl rfl hb rfl ?_
  refine Wl.guardF rfl rfl hb rfl ?_
  refine Wl.guardF rfl rfl hb rfl ?_
  refine Wl.guardF rfl rfl hb rfl ?_
  refine wZ rg (o_pickT rfl hb (v := .bool true) rfl (nZ ?_))
  refine Vc.cond' rfl (fun _ => ?_) (fun hb => Bool.noConfusion hb)
  refine Vc.ret' ?_
  refine res_nil ?_
  show Gives _ (.tuple []) _
  exact gives_out (hfr _ rfl) (VW.refl _) (hQ _ _ _ h)
theorem diagram_numbered_ctr {d : GDiagram} {Q : Bool → Prop} {S : St} {R : AV → St → Prop} (h : diagram_numbered_W d Q) (hQ : ∀ r1, Q r1 → R (AV.bool r1) S) :
    Ctr Try.prog 82 [eDiagram d] S R := by
  unfold diagram_numbered_W at h
  refine enterT Try.func82 rfl Try.ntmps82 Try.results82 (by kernel_rfl) (fun rg hrg => ?_)
  refine qZ (rZ (wZ rg (o_box (v := eDiagram d) rfl rfl (kk := 3) rfl (by decide) (fun g1 => (asZ (.bool false) rfl (nZ (qZ (rZ (wZ rg (o_alloc zav3 ok3 (kk := 1) rfl (fun g2 => (wZ rg (o_alloc zav4 ok4 (kk := 1) rfl (fun g3 => (wZ rg (o_storeB (atL (k := 3) rfl) sz3 (by decide) rfl (w := .int .i64 0) rfl rfl rfl (v := .int .i64 0) rfl setL ?_))))))))))))))))
  refine wZ rg (o_storeB (atL (k := 4) rfl) sz4 (by decide) rfl (w := .bool true) rfl rfl rfl (v := .bool true) rfl setL (nZ (qZ (rZ (wZ rg (o_faP td30 rfl rfl (by rw [sz28]; decide) rfl (wZ rg (o_loadB1 (atL (k := 1) rfl) sz28 ag28 rfl rfl (v := eL eDNode d.Nodes) rfl (wZ rg (o_len td28 rfl (wZ rg (o_make td110 bts4 ok4 (enc := AV.bool) (z' := false) zav4 (kk := 1) rfl rfl rfl h.1 (fun g4 => ?_)))))))))))))
  replace h := h.2
  refine wZ rg (o_alloc zav110 ok110 (kk := 1) rfl (fun g5 => (wZ rg (o_storeB (atL (k := 5) rfl) sz110 (by decide) rfl (w := .sl 1 rg 10 g4 0 (Int.toNat (d.Nodes.length : Int))) rfl rfl rfl (v := .sl 1 rg 10 g4 0 (Int.toNat (d.Nodes.length : Int))) rfl setL (nZ (qZ (rZ (wZ rg (o_alloc zav157 ok157 (kk := 1) rfl (fun g6 => (nZ (qZ (rZ ?_)))))))))))))
  refine wZ rg (o_func (vs := []) (us := [.ptr rg 5 g5 0 0, .ptr rg 6 g6 0 0, .ptr rg 1 g1 0 0, .ptr rg 4 g3 0 0, .ptr rg 3 g2 0 0]) rfl rfl ?_)
  refine wZ rg (o_storeB (atL (k := 6) rfl) sz157 (by decide) rfl (w := .fn (.func 126) [] [.ptr rg 5 g5 0 0, .ptr rg 6 g6 0 0, .ptr rg 1 g1 0 0, .ptr rg 4 g3 0 0, .ptr rg 3 g2 0 0]) rfl rfl rfl (v := .fn (.func 126) [] [.ptr rg 5 g5 0 0, .ptr rg 6 g6 0 0, .ptr rg 1 g1 0 0, .ptr rg 4 g3 0 0, .ptr rg 3 g2 0 0]) rfl setL (nZ (qZ (rZ ?_))))
  refine wZ rg (o_loadB1 (atL (k := 6) rfl) sz157 ag157 rfl rfl (v := .fn (.func 126) [] [.ptr rg 5 g5 0 0, .ptr rg 6 g6 0 0, .ptr rg 1 g1 0 0, .ptr rg 4 g3 0 0, .ptr rg 3 g2 0 0]) rfl (wZ rg (o_faP td30 rfl rfl (by rw [sz3]; decide) rfl (wZ rg (o_loadB1 (atL (k := 1) rfl) sz3 ag3 rfl rfl (v := .int .i64 d.Root) rfl ?_)))))
  refine Wl.wk (EWk.ow (k := 5) (o' := .arr 1 [.sl 1 rg 10 g4 0 ((rep' (d.Nodes.length : Int) false).length)]) rfl (OW.one (VWL.vwc (vl' (VW.slen (by first | rfl | omega | (simp only [go_sem] <;> omega))) (vn))))) ?_
  obtain ⟨_, h⟩ := h
  refine wZ rg (o_call (us := [AV.int .i64 d.Root, .ptr rg 5 g5 0 0, .ptr rg 6 g6 0 0, .ptr rg 1 g1 0 0, .ptr rg 4 g3 0 0, .ptr rg 3 g2 0 0]) rfl (vl' vr (vl' vr (vl' vr (vl' vr (vl' vr (vl' vr (vn))))))) (ctrX (sx_c (atL (k := 5) rfl) (sx_c (atL (k := 4) rfl) (sx_c (atL (k := 3) rfl) (sx_c (atL (k := 10) rfl) (sx_c (atL (k := 6) rfl) (sx_c (atL (k := 1) rfl) (sx_n))))))) (diagram_numbered_1__e_ctr (dk_c (ni_c (ni_o rfl) (ni_c (ni_o rfl) (ni_c (ni_o rfl) (ni_c (ni_o rfl) (ni_c (ni_o rfl) (ni_n)))))) (dk_c (ni_c (ni_o rfl) (ni_c (ni_o rfl) (ni_c (ni_o rfl) (ni_c (ni_o rfl) (ni_n))))) (dk_c (ni_c (ni_o rfl) (ni_c (ni_o rfl) (ni_c (ni_o rfl) (ni_n)))) (dk_c (ni_c (ni_o rfl) (ni_c (ni_o rfl) (ni_n))) (dk_c (ni_c (ni_o rfl) (ni_n)) (dk_c (ni_n) (dk_n))))))) h fun ok next1 u h => ?_)))
  refine Wl.eqS (sy_c (sy_c (sy_c (sy_c (sx_c (atL (k := 6) rfl) (sx_c (atL (k := 1) rfl) (sx_n))) setL) setL) setL) setL) ?_
  have hl := h.1
  replace h := h.2
  refine nZ (qZ (rZ (wZ rg (o_loadB1 (atL (k := 4) rfl) sz4 ag4 rfl rfl (v := .bool ok) rfl (mvZ (.bool ok) rfl ?_)))))
  refine Wl.guard rfl rfl (fun hb => ?_) (fun hb => ?_)
  · replace h := h.1 hb
    refine wZ rg (o_loadB1 (atL (k := 3) rfl) sz3 ag3 rfl rfl (v := .int .i64 next1) rfl ?_)
    refine Wl.guardT rfl rfl hb ?_
    refine wZ rg (o_faP td30 rfl rfl (by rw [sz28]; decide) rfl ?_)
    refine Wl.guardT rfl rfl hb ?_
    refine wZ rg (o_loadB1 (atL (k := 1) rfl) sz28 ag28 rfl rfl (v := eL eDNode d.Nodes) rfl ?_)
    refine Wl.guardT rfl rfl hb ?_
    refine wZ rg (o_len td28 rfl ?_)
    refine Wl.guardT rfl rfl hb ?_
    refine wZ rg (o_eql rfl rfl (wZ rg (o_pickT rfl hb (v := .bool (next1 == (d.Nodes.length : Int))) rfl (asZ (.bool (next1 == (d.Nodes.length : Int))) rfl (nZ ?_)))))
    refine Vc.ret' ?_
    refine res_tmp (v := .bool (next1 == (d.Nodes.length : Int))) rfl (res_nil ?_)
    show Gives _ (.bool (next1 == (d.Nodes.length : Int))) _
    exact gives_out hrg (VW.refl _) (hQ _ h)
  replace h := h.2 hb
  refine Wl.guardF rfl rfl hb rfl ?_
  refine Wl.guardF rfl rfl hb rfl ?_
  refine Wl.guardF rfl rfl hb rfl ?_
  refine Wl.guardF rfl rfl hb rfl ?_
  refine wZ rg (o_pickF rfl hb (v := .bool false) rfl (asZ (.bool false) rfl (nZ ?_)))
  refine Vc.ret' ?_
  refine res_tmp (v := .bool false) rfl (res_nil ?_)
  show Gives _ (.bool false) _
  exact gives_out hrg (VW.refl _) (hQ _ h)
theorem diagram_Check_ctr {d : GDiagram} {Q : Option Int → Prop} {S : St} {R : AV → St → Prop} (h : diagram_Check_W d Q) (hQ : ∀ r1, Q r1 → R (eErr 73 r1) S) :
    Ctr Try.prog 26 [eDiagram d] S R := by
  unfold diagram_Check_W at h
  refine enterT Try.func26 rfl Try.ntmps26 Try.results26 (by kernel_rfl) (fun rg hrg => ?_)
  refine qZ (rZ (wZ rg (o_box (v := eDiagram d) rfl rfl (kk := 3) rfl (by decide) (fun g1 => (asZ .niface rfl (nZ (qZ (rZ (wZ rg (o_faP td30 rfl rfl (by rw [sz25]; decide) rfl (wZ rg (o_loadB1 (atL (k := 1) rfl) sz25 ag25 rfl rfl (v := eL (AV.int .i64) d.Order) rfl (wZ rg (o_call (us := [eL (AV.int .i64) d.Order]) rfl (vl' vr (vn)) (order_Positions_ctr h fun r r1 h => ?_)))))))))))))))
  refine mvZ (.tuple [eL (AV.int .i64) r, eErr 73 r1]) rfl (wZ rg (o_extract (v := eL (AV.int .i64) r) rfl rfl rfl (wZ rg (o_extract (v := eErr 73 r1) rfl rfl rfl (asZ (eL (AV.int .i64) r) rfl (asZ (eErr 73 r1) rfl (nZ (qZ (qZ (rZ (mvZ (eErr 73 r1) rfl (wZ rg (o_isnon td32 (E := 73) rfl rfl rfl (nZ ?_))))))))))))))
  refine Vc.cond' rfl (fun hb => ?_) (fun hb => ?_)
  · replace h := h.1 hb
    refine qZ (rZ (mvZ (eErr 73 r1) rfl (asZ (eErr 73 r1) rfl (nZ ?_))))
    refine Vc.ret' ?_
    refine res_tmp (v := eErr 73 r1) rfl (res_nil ?_)
    show Gives _ (eErr 73 r1) _
    exact gives_out hrg (VW.refl _) (hQ _ h)
  replace h := h.2 hb
  refine Vc.skip' ?_
  refine qZ (qZ (rZ (wZ rg (o_faP td30 rfl rfl (by rw [sz28]; decide) rfl (wZ rg (o_loadB1 (atL (k := 1) rfl) sz28 ag28 rfl rfl (v := eL eDNode d.Nodes) rfl (wZ rg (o_len td28 rfl (wZ rg (o_gtr rfl rfl (nZ ?_)))))))))))
  refine Vc.cond' rfl (fun hb1 => ?_) (fun hb1 => ?_)
  · replace h := h.1 hb1
    refine qZ (rZ (wZ rg (o_iface (by rw [td73]; trivial) (v := .int .i64 4) rfl (asZ (.iface 73 (.int .i64 4)) rfl (nZ ?_)))))
    refine Vc.ret' ?_
    refine res_tmp (v := .iface 73 (.int .i64 4)) rfl (res_nil ?_)
    show Gives _ (.iface 73 (.int .i64 4)) _
    exact gives_out hrg (VW.refl _) (hQ _ h)
  replace h := h.2 hb1
  refine Vc.skip' ?_
  refine qZ (rZ (wZ rg (o_makeMap (enc := AV.bool) td113 ksh97 trivial (fun g2 => (asZ (.map rg 23 g2) rfl (nZ (qZ (qZ (rZ (wZ rg (o_faP td30 rfl rfl (by rw [sz28]; decide) rfl (wZ rg (o_loadB1 (atL (k := 1) rfl) sz28 ag28 rfl rfl (v := eL eDNode d.Nodes) rfl (wZ rg (o_len td28 rfl (mvZ (.int .i64 0) rfl (nZ ?_)))))))))))))))))
  refine Vc.blk ?_
  obtain ⟨I, μ, h0, hI⟩ := h
  refine Vc.loop' (σ := (Int × (GMap Bool))) (fun y => I y) (fun y => μ y) (fun y => envOf [(1, .ptr rg 1 g1 0 0), (3, eL (AV.int .i64) r), (5, .map rg 23 g2), (25, eL eDNode d.Nodes), (26, .int .i64 (d.Nodes.length : Int)), (27, .int .i64 y.1)]) (fun y => stL S rg [(1, .arr 3 [eDiagram d], g1), (23, mapE AV.bool (.many [.i64, .i64, .i64]) y.2, g2)]) (0, (mnew : GMap Bool)) (canon (fc vr (fc vr (fc vr (fc vr (fc vr (fc vr (fn))))))) (sc rfl (sc rfl (sn)))) h0 (fun y h => ?_)
  obtain ⟨x, x1⟩ := y
  replace h := hI (x, x1) h
  show Vc _ _ _ _ (envOf [(1, .ptr rg 1 g1 0 0), (3, eL (AV.int .i64) r), (5, .map rg 23 g2), (25, eL eDNode d.Nodes), (26, .int .i64 (d.Nodes.length : Int)), (27, .int .i64 x)]) (stL S rg [(1, .arr 3 [eDiagram d], g1), (23, mapE AV.bool (.many [.i64, .i64, .i64]) x1, g2)])
  refine qZ (rZ (wZ rg (o_lss rfl rfl (nZ (qZ ?_)))))
  refine Vc.cond' rfl (fun hb2 => ?_) (fun hb2 => ?_)
  · replace h := h.1 hb2
    refine Vc.skip' ?_
    refine qZ ?_
    refine Vc.blk ?_
    refine qZ (rZ (mvZ (.int .i64 x) rfl (wZ rg (o_idxL td28 sz97 (by decide) (fun _ => rfl) rfl rfl h.1 ?_))))
    replace h := h.2
    refine wZ rg (o_loadIA sz97 (by decide) ag97 rfl rfl (v := eDNode (at' d.Nodes x)) rfl (wZ rg (o_alloc zav97 ok97 (kk := 3) rfl (fun g3 => (asZ (.int .i64 x) rfl (wZ rg (o_storeB (atL (k := 7) rfl) sz97 (by decide) rfl (w := eDNode (at' d.Nodes x)) rfl rfl rfl (v := eDNode (at' d.Nodes x)) rfl setL (nZ (qZ (qZ (rZ ?_)))))))))))
    refine wZ rg (o_loadBA (atL (k := 1) rfl) sz30 (by decide) ag30 rfl rfl (v := eDiagram d) rfl (mvZ (eL (AV.int .i64) r) rfl (mvZ (.int .i64 x) rfl (wZ rg (o_call (us := [eDiagram d, eL (AV.int .i64) r, AV.int .i64 x]) rfl (vl' vr (vl' vr (vl' vr (vn)))) (diagram_checkNode_ctr h fun err h => (asZ (eErr 73 err) rfl (nZ (qZ (rZ (mvZ (eErr 73 err) rfl (wZ rg (o_isnon td32 (E := 73) rfl rfl rfl ?_)))))))))))))
    refine nZ ?_
    refine Vc.cond' rfl (fun hb3 => ?_) (fun hb3 => ?_)
    · replace h := h.1 hb3
      refine qZ (rZ (mvZ (eErr 73 err) rfl (asZ (eErr 73 err) rfl (nZ ?_))))
      refine Vc.ret' ?_
      refine res_tmp (v := eErr 73 err) rfl (res_nil ?_)
      show Gives _ (eErr 73 err) _
      exact gives_out hrg (VW.refl _) (hQ _ h)
    replace h := h.2 hb3
    refine Vc.skip' ?_
    refine qZ (qZ (rZ (mvZ (.map rg 23 g2) rfl (wZ rg (o_loadBA (atL (k := 7) rfl) sz97 (by decide) ag97 rfl rfl (v := eDNode (at' d.Nodes x)) rfl (wZ rg (o_lookup1 (atL (k := 23) rfl) td113 ksh97 ok4 (z := false) zav4 rfl rfl (nZ ?_))))))))
    refine Vc.cond' rfl (fun hb4 => ?_) (fun hb4 => ?_)
    · replace h := h.1 hb4
      refine qZ (rZ (wZ rg (o_iface (by rw [td73]; trivial) (v := .int .i64 6) rfl (asZ (.iface 73 (.int .i64 6)) rfl (nZ ?_)))))
      refine Vc.ret' ?_
      refine res_tmp (v := .iface 73 (.int .i64 6)) rfl (res_nil ?_)
      show Gives _ (.iface 73 (.int .i64 6)) _
      exact gives_out hrg (VW.refl _) (hQ _ h)
    replace h := h.2 hb4
    refine Vc.skip' ?_
    refine rZ ?_
    refine mvZ (.map rg 23 g2) rfl (wZ rg (o_loadBA (atL (k := 7) rfl) sz97 (by decide) ag97 rfl rfl (v := eDNode (at' d.Nodes x)) rfl (wZ rg (o_mapUpd (v := true) (atL (k := 23) rfl) td113 ksh97 rfl rfl rfl setL (nZ (rZ (wZ rg (o_addG rfl rfl h.1 ?_))))))))
    replace h := h.2
    refine mvZ (.int .i64 (x + 1)) rfl (nZ ?_)
    exact ⟨((x + 1), (mput x1 [(at' d.Nodes x).Var, (at' d.Nodes x).Lo, (at' d.Nodes x).Hi] true)), (canon (fc vr (fc vr (fc vr (fc vr (fc vr (fc vr (fn))))))) (sc rfl (sc rfl (sn)))), h⟩
  replace h := h.2 hb2
  refine Vc.exit' (exB_self ?_)
  refine qZ ?_
  refine Vc.blk ?_
  obtain ⟨J, h, hJ⟩ := h
  refine Vc.join' (σ := ((Bool) × (Nat))) (fun y => J y.1) (fun y => envOf [(1, .ptr rg 1 y.2 0 0), (46, .bool y.1)]) (fun y => stL S rg [(1, .arr 3 [eDiagram d], y.2)]) (fun y h => ?_) ?_
  · obtain ⟨x2, g4⟩ := y
    replace h := hJ x2 h
    show Vc _ _ _ _ (envOf [(1, .ptr rg 1 g4 0 0), (46, .bool x2)]) (stL S rg [(1, .arr 3 [eDiagram d], g4)])
    refine Vc.cond' rfl (fun hb5 => ?_) (fun hb5 => ?_)
    · replace h := h.1 hb5
      refine qZ (rZ (wZ rg (o_iface (by rw [td73]; trivial) (v := .int .i64 10) rfl (asZ (.iface 73 (.int .i64 10)) rfl (nZ ?_)))))
      refine Vc.ret' ?_
      refine res_tmp (v := .iface 73 (.int .i64 10)) rfl (res_nil ?_)
      show Gives _ (.iface 73 (.int .i64 10)) _
      exact gives_out hrg (VW.refl _) (hQ _ h)
    replace h := h.2 hb5
    refine qZ (rZ (wZ rg (o_loadBA (atL (k := 1) rfl) sz30 (by decide) ag30 rfl rfl (v := eDiagram d) rfl (wZ rg (o_call (us := [eDiagram d]) rfl (vl' vr (vn)) (diagram_numbered_ctr h fun r2 h => (wZ rg (o_not rfl (asZ (.bool (!r2)) rfl (nZ ?_))))))))))
    refine Vc.cond' rfl (fun hb6 => ?_) (fun hb6 => ?_)
    · replace h := h.1 hb6
      refine qZ (rZ (wZ rg (o_iface (by rw [td73]; trivial) (v := .int .i64 2) rfl (asZ (.iface 73 (.int .i64 2)) rfl (nZ ?_)))))
      refine Vc.ret' ?_
      refine res_tmp (v := .iface 73 (.int .i64 2)) rfl (res_nil ?_)
      show Gives _ (.iface 73 (.int .i64 2)) _
      exact gives_out hrg (VW.refl _) (hQ _ h)
    replace h := h.2 hb6
    refine Vc.skip' ?_
    refine qZ (rZ (asZ .niface rfl (nZ ?_)))
    refine Vc.ret' ?_
    refine res_tmp (v := .niface) rfl (res_nil ?_)
    show Gives _ .niface _
    exact gives_out hrg (VW.refl _) (hQ _ h)
  refine rZ ?_
  refine wZ rg (o_faP td30 rfl rfl (by rw [sz3]; decide) rfl (wZ rg (o_loadB1 (atL (k := 1) rfl) sz3 ag3 rfl rfl (v := .int .i64 d.Root) rfl (wZ rg (o_lss rfl rfl (mvZ (.bool (decide (d.Root < 0))) rfl ?_))))))
  refine Wl.guard rfl rfl (fun hb7 => ?_) (fun hb7 => ?_)
  · replace h := h.2 hb7
    refine wZ rg (o_faP td30 rfl rfl (by rw [sz3]; decide) rfl ?_)
    refine Wl.guardT rfl rfl hb7 ?_
    refine wZ rg (o_loadB1 (atL (k := 1) rfl) sz3 ag3 rfl rfl (v := .int .i64 d.Root) rfl ?_)
    refine Wl.guardT rfl rfl hb7 ?_
    refine wZ rg (o_faP td30 rfl rfl (by rw [sz28]; decide) rfl ?_)
    refine Wl.guardT rfl rfl hb7 ?_
    refine wZ rg (o_loadB1 (atL (k := 1) rfl) sz28 ag28 rfl rfl (v := eL eDNode d.Nodes) rfl ?_)
    refine Wl.guardT rfl rfl hb7 ?_
    refine wZ rg (o_len td28 rfl ?_)
    refine Wl.guardT rfl rfl hb7 ?_
    refine wZ rg (o_addG rfl rfl h.1 ?_)
    replace h := h.2
    refine Wl.guardT rfl rfl hb7 ?_
    refine wZ rg (o_gtr rfl rfl (wZ rg (o_pickF rfl hb7 (v := .bool (decide ((1 + (d.Nodes.length : Int)) < d.Root))) rfl (asZ (.bool (decide ((1 + (d.Nodes.length : Int)) < d.Root))) rfl (nZ ?_)))))
    exact ⟨((decide ((1 + (d.Nodes.length : Int)) < d.Root)), g1), (canon (fc vr (fc vr (fn))) (sc rfl (sn))), h⟩
  replace h := h.1 hb7
  refine Wl.guardF rfl rfl hb7 rfl ?_
  refine Wl.guardF rfl rfl hb7 rfl ?_
  refine Wl.guardF rfl rfl hb7 rfl ?_
  refine Wl.guardF rfl rfl hb7 rfl ?_
  refine Wl.guardF rfl rfl hb7 rfl ?_
  refine Wl.guardF rfl rfl hb7 rfl ?_
  refine wZ rg (o_pickT rfl hb7 (v := .bool true) rfl (asZ (.bool true) rfl (nZ ?_)))
  exact ⟨(true, g1), (canon (fc vr (fc vr (fn))) (sc rfl (sn))), h⟩
end Go.Proofs.Ytiamkdpljeemkaa
/- Walks of functions. Conditions: none. -/
namespace Go.Proofs.Ytiamkdpljeemkaa
open Go.Gg
set_option maxRecDepth 100000
theorem order_natural_ctrO {n : Int} (q k : Nat) {Q : List Int → Prop} {S : St} {R : AV → St → Prop} (h : order_natural_W n Q) (hQ : ∀ r1 g, Q r1 → R (.sl 1 q k g 0 r1.length) (S.set q k (.arr 1 (List.map (AV.int .i64) r1)) g)) :
    Ctr Try.prog 102 [AV.int .i64 n] S R := by
  unfold order_natural_W at h
  refine enterT Try.func102 rfl Try.ntmps102 Try.results102 (by kernel_rfl) (fun rg hrg => ?_)
  refine qZ (rZ (asZ .nil rfl (nZ (qZ (rZ (mvZ (.int .i64 n) rfl (wZ rg (o_make td25 bts3 ok3 (enc := AV.int .i64) (z' := 0) zav3 (kk := 1) rfl rfl rfl h.1 (fun g1 => ?_)))))))))
  replace h := h.2
  refine asZ (.sl 1 rg 6 g1 0 (Int.toNat n)) rfl (nZ (qZ (qZ (rZ (mvZ (.sl 1 rg 6 g1 0 (Int.toNat n)) rfl (wZ rg (o_lenR td25 rfl (mvZ (.int .i64 0) rfl (nZ ?_)))))))))
  refine Vc.blk ?_
  obtain ⟨I, μ, h0, hI⟩ := h
  refine Vc.loop' (σ := (Int × (List Int))) (fun y => I y) (fun y => μ y) (fun y => envOf [(3, .sl 1 rg 6 g1 0 y.2.length), (8, .int .i64 ((Int.toNat n) : Int)), (9, .int .i64 y.1)]) (fun y => stL S rg [(6, .arr 1 (List.map (AV.int .i64) y.2), g1)]) (0, (rep' n 0)) (canon (fc (VW.slen (by first | rfl | omega | (simp only [go_sem] <;> omega))) (fc vr (fc vr (fn)))) (sc rfl (sn))) h0 (fun y h => ?_)
  obtain ⟨x, out⟩ := y
  replace h := hI (x, out) h
  show Vc _ _ _ _ (envOf [(3, .sl 1 rg 6 g1 0 out.length), (8, .int .i64 ((Int.toNat n) : Int)), (9, .int .i64 x)]) (stL S rg [(6, .arr 1 (List.map (AV.int .i64) out), g1)])
  refine qZ (rZ (wZ rg (o_lss rfl rfl (nZ (qZ ?_)))))
  refine Vc.cond' rfl (fun hb => ?_) (fun hb => ?_)
  · replace h := h.1 hb
    refine Vc.skip' ?_
    refine qZ ?_
    refine Vc.blk ?_
    refine qZ (rZ (mvZ (.int .i64 x) rfl (asZ (.int .i64 x) rfl (nZ (rZ (mvZ (.sl 1 rg 6 g1 0 out.length) rfl (mvZ (.int .i64 x) rfl (mvZ (.int .i64 x) rfl (wZ rg (o_idxR0 td25 sz3 (by decide) rfl rfl h.1 ?_))))))))))
    have hi := h.1
    replace h := h.2
    refine wZ rg (o_storeR1 (atL (k := 6) rfl) sz3 (by decide) (x' := x) (fun _ => rfl) rfl rfl (lt_of hi (by first | rfl | omega | (simp only [go_sem] <;> omega))) rfl rfl setL (nZ (rZ (wZ rg (o_addG rfl rfl h.1 ?_)))))
    replace h := h.2
    refine mvZ (.int .i64 (x + 1)) rfl (nZ ?_)
    exact ⟨((x + 1), (set' out x x)), (canon (fc (VW.slen (by first | rfl | omega | (simp only [go_sem] <;> omega))) (fc vr (fc vr (fn)))) (sc rfl (sn))), h⟩
  replace h := h.2 hb
  refine Vc.exit' (exB_self ?_)
  refine qZ (rZ (mvZ (.sl 1 rg 6 g1 0 out.length) rfl (asZ (.sl 1 rg 6 g1 0 out.length) rfl (nZ ?_))))
  refine Vc.ret' ?_
  refine res_tmp (v := .sl 1 rg 6 g1 0 out.length) rfl (res_nil ?_)
  show Gives _ (.sl 1 rg 6 g1 0 out.length) _
  exact gives_own q k hrg rfl (fun g' => hQ _ g' h)
theorem order_Natural_ctrO {vars : Int} (q k : Nat) {Q : List Int → Option Int → Prop} {S : St} {R : AV → St → Prop} (h : order_Natural_W vars Q) (hQ : ∀ r1 r2 g, Q r1 r2 → R (.tuple [.sl 1 q k g 0 r1.length, eErr 73 r2]) (S.set q k (.arr 1 (List.map (AV.int .i64) r1)) g)) :
    Ctr Try.prog 50 [AV.int .i64 vars] S R := by
  unfold order_Natural_W at h
  refine enterT Try.func50 rfl Try.ntmps50 Try.results50 (by kernel_rfl) (fun rg hrg => ?_)
  refine qZ (rZ (asZ .nil rfl (asZ .niface rfl (nZ (qZ ?_)))))
  obtain ⟨J, h, hJ⟩ := h
  refine Vc.join' (σ := (Bool)) (fun y => J y) (fun y => envOf [(0, .int .i64 vars), (9, .bool y)]) (fun y => stL S rg []) (fun x h => ?_) ?_
  · replace h := hJ x h
    show Vc _ _ _ _ (envOf [(0, .int .i64 vars), (9, .bool x)]) (stL S rg [])
    refine Vc.cond' rfl (fun hb => ?_) (fun hb => ?_)
    · replace h := h.1 hb
      refine qZ (rZ (wZ rg (o_iface (by rw [td73]; trivial) (v := .int .i64 3) rfl (asZ .nil rfl (asZ (.iface 73 (.int .i64 3)) rfl (nZ ?_))))))
      refine Vc.ret' ?_
      refine res_tmp (v := .nil) rfl (res_tmp (v := .iface 73 (.int .i64 3)) rfl (res_nil ?_))
      show Gives _ (.tuple [.nil, .iface 73 (.int .i64 3)]) _
      exact gives_nilT q k 0 (by decide) rfl hrg (fun g' => hQ [] _ g' h)
    replace h := h.2 hb
    refine Vc.skip' ?_
    refine qZ (rZ (mvZ (.int .i64 vars) rfl (wZ rg (o_call (us := [AV.int .i64 vars]) rfl (vl' vr (vn)) (order_natural_ctrO rg 12 h fun r g1 h => ?_)))))
    refine Wl.eqS setL ?_
    refine asZ (.sl 1 rg 12 g1 0 r.length) rfl (asZ .niface rfl (nZ ?_))
    refine Vc.ret' ?_
    refine res_tmp (v := .sl 1 rg 12 g1 0 r.length) rfl (res_tmp (v := .niface) rfl (res_nil ?_))
    show Gives _ (.tuple [.sl 1 rg 12 g1 0 r.length, .niface]) _
    exact gives_objs q hrg [(12, g1, .arr 1 (List.map (AV.int .i64) r), k)] ⟨rfl, rfl, trivial⟩ (fun γ => .tuple [.sl 1 q k (γ 0) 0 r.length, eErr 73 none]) (fun γ => [(q, k, .arr 1 (List.map (AV.int .i64) r), γ 0)]) (fun γ => rx_c ro_r rx_n) (fun γ => rn_tup (rl_c (rn_s 0 rfl) (rl_c (rn_r) (rl_n)))) (fun γ => hQ _ _ (γ 0) h)
  refine rZ ?_
  refine mvZ (.int .i64 vars) rfl (wZ rg (o_lss rfl rfl (mvZ (.bool (decide (vars < 0))) rfl ?_)))
  refine Wl.guard rfl rfl (fun hb1 => ?_) (fun hb1 => ?_)
  · replace h := h.2 hb1
    refine mvZ (.int .i64 vars) rfl ?_
    refine Wl.guardT rfl rfl hb1 ?_
    refine wZ rg (o_gtr rfl rfl (wZ rg (o_pickF rfl hb1 (v := .bool (decide (24 < vars))) rfl (nZ ?_))))
    exact ⟨(decide (24 < vars)), (canon (fc vr (fc vr (fn))) (sn)), h⟩
  replace h := h.1 hb1
  refine Wl.guardF rfl rfl hb1 rfl ?_
  refine wZ rg (o_pickT rfl hb1 (v := .bool true) rfl (nZ ?_))
  exact ⟨true, (canon (fc vr (fc vr (fn))) (sn)), h⟩
end Go.Proofs.Ytiamkdpljeemkaa
/- Walks of functions. Conditions: none. -/
namespace Go.Proofs.Ytiamkdpljeemkaa
open Go.Gg
set_option maxRecDepth 100000
theorem slices_Index___int_int_ctr {s : List Int} {v : Int} {Q : Int → Prop} {S : St} {R : AV → St → Prop} (h : slices_Index___int_int_W s v Q) (hQ : ∀ r1, Q r1 → R (AV.int .i64 r1) S) :
    Ctr Try.prog 85 [eL (AV.int .i64) s, AV.int .i64 v] S R := by
  unfold slices_Index___int_int_W at h
  refine enterT Try.func85 rfl Try.ntmps85 Try.results85 (by kernel_rfl) (fun rg hrg => ?_)
  refine qZ (rZ (asZ (.int .i64 0) rfl (nZ (qZ (qZ (rZ (mvZ (eL (AV.int .i64) s) rfl (wZ rg (o_len td25 rfl (mvZ (.int .i64 0) rfl (nZ ?_)))))))))))
  refine Vc.blk ?_
  obtain ⟨I, μ, h0, hI⟩ := h
  refine Vc.loop' (σ := (Int)) (fun y => I y) (fun y => μ y) (fun y => envOf [(0, eL (AV.int .i64) s), (1, .int .i64 v), (7, .int .i64 (s.length : Int)), (8, .int .i64 y)]) (fun y => stL S rg []) 0 (canon (fc vr (fc vr (fc vr (fc vr (fn))))) (sn)) h0 (fun x h => ?_)
  replace h := hI x h
  show Vc _ _ _ _ (envOf [(0, eL (AV.int .i64) s), (1, .int .i64 v), (7, .int .i64 (s.length : Int)), (8, .int .i64 x)]) (stL S rg [])
  refine qZ (rZ (wZ rg (o_lss rfl rfl (nZ (qZ ?_)))))
  refine Vc.cond' rfl (fun hb => ?_) (fun hb => ?_)
  · replace h := h.1 hb
    refine Vc.skip' ?_
    refine qZ ?_
    refine Vc.blk ?_
    refine qZ (rZ (mvZ (.int .i64 x) rfl (asZ (.int .i64 x) rfl (nZ (qZ (rZ (mvZ (.int .i64 v) rfl (mvZ (eL (AV.int .i64) s) rfl (mvZ (.int .i64 x) rfl (wZ rg (o_idxL td25 sz3 (by decide) (fun _ => rfl) rfl rfl h.1 ?_)))))))))))
    replace h := h.2
    refine wZ rg (o_loadI1 sz3 ag3 rfl rfl (v := .int .i64 (at' s x)) rfl (wZ rg (o_eql rfl rfl (nZ ?_))))
    refine Vc.cond' rfl (fun hb1 => ?_) (fun hb1 => ?_)
    · replace h := h.1 hb1
      refine qZ (rZ (mvZ (.int .i64 x) rfl (asZ (.int .i64 x) rfl (nZ ?_))))
      refine Vc.ret' ?_
      refine res_tmp (v := .int .i64 x) rfl (res_nil ?_)
      show Gives _ (.int .i64 x) _
      exact gives_out hrg (VW.refl _) (hQ _ h)
    replace h := h.2 hb1
    refine Vc.skip' ?_
    refine rZ ?_
    refine wZ rg (o_addG rfl rfl h.1 ?_)
    replace h := h.2
    refine mvZ (.int .i64 (x + 1)) rfl (nZ ?_)
    exact ⟨(x + 1), (canon (fc vr (fc vr (fc vr (fc vr (fn))))) (sn)), h⟩
  replace h := h.2 hb
  refine Vc.exit' (exB_self ?_)
  refine qZ (rZ (asZ (.int .i64 (-1)) rfl (nZ ?_)))
  refine Vc.ret' ?_
  refine res_tmp (v := .int .i64 (-1)) rfl (res_nil ?_)
  show Gives _ (.int .i64 (-1)) _
  exact gives_out hrg (VW.refl _) (hQ _ h)
end Go.Proofs.Ytiamkdpljeemkaa
/- Walks of functions. Conditions: none. -/
namespace Go.Proofs.Ytiamkdpljeemkaa
open Go.Gg
set_option maxRecDepth 100000
theorem slices_Clone___int_int_ctrO {s : List Int} (q k : Nat) {Q : List Int → Prop} {S : St} {R : AV → St → Prop} (h : slices_Clone___int_int_W s Q) (hQ : ∀ r1 g, Q r1 → R (.sl 1 q k g 0 r1.length) (S.set q k (.arr 1 (List.map (AV.int .i64) r1)) g)) :
    Ctr Try.prog 134 [eL (AV.int .i64) s] S R := by
  unfold slices_Clone___int_int_W at h
  refine enterT Try.func134 rfl Try.ntmps134 Try.results134 (by kernel_rfl) (fun rg hrg => ?_)
  refine qZ (rZ (asZ .nil rfl (nZ (qZ (qZ (rZ (mvZ (eL (AV.int .i64) s) rfl ?_)))))))
  refine Wl.isnil td25 rfl rfl (fun isnil hn => ?_)
  replace h := h isnil hn
  refine nZ ?_
  refine Vc.cond' rfl (fun hb => ?_) (fun hb => ?_)
  · replace h := h.1 hb
    refine qZ (rZ (asZ .nil rfl (nZ ?_)))
    refine Vc.ret' ?_
    refine res_tmp (v := .nil) rfl (res_nil ?_)
    show Gives _ .nil _
    exact gives_nil1 q k (by decide) hrg (fun g' => hQ [] g' h)
  replace h := h.2 hb
  refine Vc.skip' ?_
  refine qZ (rZ (wZ rg (o_bslice td25 ok3 zav3 (es := []) rfl (kk := 1) rfl rfl rfl rfl rfl rfl (fun g1 => (mvZ (eL (AV.int .i64) s) rfl (wZ rg (o_appR td25 bts3 ok3 zav3 (es := []) (xs := s) (enc := AV.int .i64) (atL (k := 5) rfl) (by first | rfl | omega | (simp only [go_sem] <;> omega)) (rfl) (kk := 1) rfl rfl (fun _ => rfl) (fun _ => rfl) h.1 rfl (fun _ => setL) (fun g2 => ?_))))))))
  replace h := h.2
  refine asZ (.sl 1 rg 5 g2 0 (([] ++ s).length)) rfl (nZ ?_)
  refine Vc.ret' ?_
  refine res_tmp (v := .sl 1 rg 5 g2 0 (([] ++ s).length)) rfl (res_nil ?_)
  show Gives _ (.sl 1 rg 5 g2 0 (([] ++ s).length)) _
  exact gives_own q k hrg rfl (fun g' => hQ _ g' h)
def insRen : Go.Shelf.Ren := ⟨fun n => if n == 21 then 136 else if n == 27 then 158 else if n == 28 then 159 else if n == 35 then 174 else if n == 39 then 184 else n, fun n => if n == 0 then 0 else if n == 3 then 3 else if n == 4 then 4 else if n == 22 then 25 else n, fun n => n⟩
theorem insLay : Go.Proofs.Lays2.n21 Try.prog insRen where
  mixed := by kernel_rfl
  f21 := Try.func136.trans (congrArg some (by kernel_rfl))
  f27 := Try.func158.trans (congrArg some (by kernel_rfl))
  f28 := Try.func159.trans (congrArg some (by kernel_rfl))
  f35 := Try.func174.trans (congrArg some (by kernel_rfl))
  f39 := Try.func184.trans (congrArg some (by kernel_rfl))
  t0 := Try.underlying0
  a0 := Try.isAgg0
  z0 := Try.sizeOf0
  v0 := Try.zeroValue0
  t3 := Try.underlying3
  a3 := Try.isAgg3
  z3 := Try.sizeOf3
  v3 := Try.zeroValue3
  t4 := Try.underlying4
  a4 := Try.isAgg4
  z4 := Try.sizeOf4
  v4 := Try.zeroValue4
  t22 := Try.underlying25
  a22 := Try.isAgg25
  z22 := Try.sizeOf25
  v22 := Try.zeroValue25
  i3 := by kernel_rfl
theorem slices_Insert_int__e_ctr {i : Int} {s : List Int} {v : List Int} {q0 k0 g0 q1 k1 g1 : Nat} (hdk : DK [(q0, k0), (q1, k1)]) {Q : List Int → Prop} {S : St} {R : AV → St → Prop} (h : slices_Insert_int__e_W i s v Q) (hQ : ∀ r1, ∀ h0, Q r1 → R (.sl 1 q0 k0 h0 0 r1.length) (stX S [(q0, k0, .arr 1 (List.map (AV.int .i64) r1), h0), (q1, k1, .arr 1 (List.map (AV.int .i64) v), g1)])) :
    Ctr Try.prog 136 [.sl 1 q0 k0 g0 0 s.length, AV.int .i64 i, .sl 1 q1 k1 g1 0 v.length] (stX S [(q0, k0, .arr 1 (List.map (AV.int .i64) s), g0), (q1, k1, .arr 1 (List.map (AV.int .i64) v), g1)]) R :=
  insert_ctr insLay (by kernel_rfl) (fun hc => hdk.1 _ (List.mem_singleton.2 rfl) ⟨hc.1.symm, hc.2.symm⟩) h.1 h.2.1 h.2.2.1 (fun g' => hQ _ g' h.2.2.2)
theorem slices_Contains___int_int_ctr {s : List Int} {v : Int} {Q : Bool → Prop} {S : St} {R : AV → St → Prop} (h : slices_Contains___int_int_W s v Q) (hQ : ∀ r1, Q r1 → R (AV.bool r1) S) :
    Ctr Try.prog 138 [eL (AV.int .i64) s, AV.int .i64 v] S R := by
  unfold slices_Contains___int_int_W at h
  refine enterT Try.func138 rfl Try.ntmps138 Try.results138 (by kernel_rfl) (fun rg hrg => ?_)
  refine qZ (rZ (asZ (.bool false) rfl (nZ (qZ (rZ (mvZ (eL (AV.int .i64) s) rfl (mvZ (.int .i64 v) rfl (wZ rg (o_call (us := [eL (AV.int .i64) s, AV.int .i64 v]) rfl (vl' vr (vl' vr (vn))) (slices_Index___int_int_ctr h fun r h => (wZ rg (o_geq rfl rfl (asZ (.bool (decide (0 ≤ r))) rfl (nZ ?_))))))))))))))
  refine Vc.ret' ?_
  refine res_tmp (v := .bool (decide (0 ≤ r))) rfl (res_nil ?_)
  show Gives _ (.bool (decide (0 ≤ r))) _
  exact gives_out hrg (VW.refl _) (hQ _ h)
end Go.Proofs.Ytiamkdpljeemkaa
/- Walks of functions. Conditions: none. -/
namespace Go.Proofs.Ytiamkdpljeemkaa
open Go.Gg
set_option maxRecDepth 100000
theorem sifting_reorder_ctr {d : GDiagram} {o : List Int} {Q : GDiagram → Option Int → Prop} {S : St} {R : AV → St → Prop} (h : sifting_reorder_W d o Q) (hQ : ∀ r1 r2, Q r1 r2 → R (.tuple [eDiagram r1, eErr 73 r2]) S) :
    Ctr Try.prog 90 [eDiagram d, eL (AV.int .i64) o] S R := by
  unfold sifting_reorder_W at h
  refine enterT Try.func90 rfl Try.ntmps90 Try.results90 (by kernel_rfl) (fun rg hrg => ?_)
  refine qZ (rZ (wZ rg (o_box (v := eDiagram d) rfl rfl (kk := 3) rfl (by decide) (fun g1 => (wZ rg (o_alloc zav30 ok30 (kk := 3) rfl (fun g2 => (asZ .niface rfl (nZ (qZ (rZ (mvZ (eL (AV.int .i64) o) rfl (wZ rg (o_call (us := [eL (AV.int .i64) o]) rfl (vl' vr (vn)) (decision_New_ctr rg 1000000 1000001 1000002 1000003 1000004 h fun order place unique memo g3 g4 g5 g6 g7 h => ?_)))))))))))))))
  refine Wl.eqS (sy_c (sy_c (sy_c (sy_c (sy_c (sx_n) setL) setL) setL) setL) setL) ?_
  refine asZ (.ptr rg 1000000 g3 0 0) rfl (nZ (qZ (rZ (mvZ (.ptr rg 1000000 g3 0 0) rfl (wZ rg (o_loadBA (atL (k := 2) rfl) sz30 (by decide) ag30 rfl rfl (v := eDiagram d) rfl ?_))))))
  refine Wl.matB 1000000 2 1000001002 3 (b := fun g8 => .agg [.sl 1 rg 1000001 g4 0 order.length, .sl 1 rg 1000002 g5 0 place.length, .sl 3 rg 1000001002 g8 0 (([] : List GDNode).length), .map rg 1000003 g6, .map rg 1000004 g7]) rfl rfl (by decide) (by decide) rfl (fun g8 => ?_)
  refine wZ rg (o_call (us := [.ptr rg 1000000 g3 0 0, eDiagram d]) rfl (vl' vr (vl' vr (vn))) (ctrX (sx_c (atL (k := 1000000) rfl) (sx_c (atL (k := 1000001002) rfl) (sx_c (atL (k := 1000003) rfl) (sx_c (atL (k := 1000004) rfl) (sx_c (atL (k := 1000001) rfl) (sx_c (atL (k := 1000002) rfl) (sx_n))))))) (decision_Table__Translate__e2_ctr (dk_c (ni_c (ni_o rfl) (ni_c (ni_o rfl) (ni_c (ni_o rfl) (ni_c (ni_o rfl) (ni_c (ni_o rfl) (ni_n)))))) (dk_c (ni_c (ni_o rfl) (ni_c (ni_o rfl) (ni_c (ni_o rfl) (ni_c (ni_o rfl) (ni_n))))) (dk_c (ni_c (ni_o rfl) (ni_c (ni_o rfl) (ni_c (ni_o rfl) (ni_n)))) (dk_c (ni_c (ni_o rfl) (ni_c (ni_o rfl) (ni_n))) (dk_c (ni_c (ni_o rfl) (ni_n)) (dk_c (ni_n) (dk_n))))))) h fun u u1 u2 r g9 h => ?_)))
  refine Wl.eqS (sy_c (sy_c (sy_c (sy_c (sx_c (atL (k := 1000001) rfl) (sx_c (atL (k := 1000002) rfl) (sx_n))) setL) setL) setL) setL) ?_
  refine asZ (.int .i64 r) rfl (nZ (qZ (qZ (rZ (mvZ (.ptr rg 1000000 g3 0 0) rfl (mvZ (.int .i64 r) rfl ?_))))))
  refine wZ rg (o_call (us := [.ptr rg 1000000 g3 0 0, AV.int .i64 r, AV.int .i64 4096]) rfl (vl' vr (vl' vr (vl' vr (vn)))) (ctrX (sx_c (atL (k := 1000000) rfl) (sx_c (atL (k := 1000001) rfl) (sx_c (atL (k := 1000002) rfl) (sx_c (atL (k := 1000001002) rfl) (sx_c (atL (k := 1000003) rfl) (sx_c (atL (k := 1000004) rfl) (sx_n))))))) (decision_Table__Small__e_ctr (dk_c (ni_c (ni_o rfl) (ni_c (ni_o rfl) (ni_c (ni_o rfl) (ni_c (ni_o rfl) (ni_c (ni_o rfl) (ni_n)))))) (dk_c (ni_c (ni_o rfl) (ni_c (ni_o rfl) (ni_c (ni_o rfl) (ni_c (ni_o rfl) (ni_n))))) (dk_c (ni_c (ni_o rfl) (ni_c (ni_o rfl) (ni_c (ni_o rfl) (ni_n)))) (dk_c (ni_c (ni_o rfl) (ni_c (ni_o rfl) (ni_n))) (dk_c (ni_c (ni_o rfl) (ni_n)) (dk_c (ni_n) (dk_n))))))) h fun r1 h => ?_)))
  refine Wl.eqS (sx_c (atL (k := 1000000) rfl) (sx_c (atL (k := 1000001) rfl) (sx_c (atL (k := 1000002) rfl) (sx_c (atL (k := 1000001002) rfl) (sx_c (atL (k := 1000003) rfl) (sx_c (atL (k := 1000004) rfl) (sx_n))))))) ?_
  refine wZ rg (o_not rfl (nZ ?_))
  refine Vc.cond' rfl (fun hb => ?_) (fun hb => ?_)
  · replace h := h.1 hb
    refine qZ (rZ (wZ rg (o_build td30 zav30 bok30 szs30 sz30 (ps := []) rfl rfl (v := .agg [.nil, .nil, .int .i64 0]) rfl (wZ rg (o_iface (by rw [td73]; trivial) (v := .int .i64 4) rfl (wZ rg (o_storeB (atL (k := 4) rfl) sz30 (by decide) rfl (w := .agg [.nil, .nil, .int .i64 0]) rfl rfl rfl (v := .agg [.nil, .nil, .int .i64 0]) rfl setL (asZ (.iface 73 (.int .i64 4)) rfl (nZ ?_)))))))))
    refine Vc.ret' ?_
    refine res_cellA (atL (k := 4) rfl) sz30 (by decide) ag30 rfl rfl (v := .agg [.nil, .nil, .int .i64 0]) rfl (res_tmp (v := .iface 73 (.int .i64 4)) rfl (res_nil ?_))
    show Gives _ (.tuple [.agg [.nil, .nil, .int .i64 0], .iface 73 (.int .i64 4)]) _
    exact gives_out hrg (VW.tupL (vl' (VW.aggL (vl' (VW.nilL) (vl' (VW.nilL) (vl' vr (vn))))) (vl' vr (vn)))) (hQ _ _ h)
  replace h := h.2 hb
  refine Vc.skip' ?_
  refine qZ (rZ (mvZ (.ptr rg 1000000 g3 0 0) rfl (mvZ (.int .i64 r) rfl ?_)))
  refine wZ rg (o_call (us := [.ptr rg 1000000 g3 0 0, AV.int .i64 r]) rfl (vl' vr (vl' vr (vn))) (ctrX (sx_c (atL (k := 1000000) rfl) (sx_c (atL (k := 1000001) rfl) (sx_c (atL (k := 1000002) rfl) (sx_c (atL (k := 1000001002) rfl) (sx_c (atL (k := 1000003) rfl) (sx_c (atL (k := 1000004) rfl) (sx_n))))))) (decision_Table__Export__e_ctr (dk_c (ni_c (ni_o rfl) (ni_c (ni_o rfl) (ni_c (ni_o rfl) (ni_c (ni_o rfl) (ni_c (ni_o rfl) (ni_n)))))) (dk_c (ni_c (ni_o rfl) (ni_c (ni_o rfl) (ni_c (ni_o rfl) (ni_c (ni_o rfl) (ni_n))))) (dk_c (ni_c (ni_o rfl) (ni_c (ni_o rfl) (ni_c (ni_o rfl) (ni_n)))) (dk_c (ni_c (ni_o rfl) (ni_c (ni_o rfl) (ni_n))) (dk_c (ni_c (ni_o rfl) (ni_n)) (dk_c (ni_n) (dk_n))))))) h fun r2 h => ?_)))
  refine Wl.eqS (sx_c (atL (k := 1000000) rfl) (sx_c (atL (k := 1000001) rfl) (sx_c (atL (k := 1000002) rfl) (sx_c (atL (k := 1000001002) rfl) (sx_c (atL (k := 1000003) rfl) (sx_c (atL (k := 1000004) rfl) (sx_n))))))) ?_
  refine wZ rg (o_storeB (atL (k := 4) rfl) sz30 (by decide) rfl (w := eDiagram r2) rfl rfl rfl (v := eDiagram r2) rfl setL (asZ .niface rfl (nZ ?_)))
  refine Vc.ret' ?_
  refine res_cellA (atL (k := 4) rfl) sz30 (by decide) ag30 rfl rfl (v := eDiagram r2) rfl (res_tmp (v := .niface) rfl (res_nil ?_))
  show Gives _ (.tuple [eDiagram r2, .niface]) _
  exact gives_out hrg (VW.tupL (vl' vr (vl' vr (vn)))) (hQ _ _ h)
theorem sifting_moved_1__e_ctr {i : Int} {u : Int} {q0 k0 g0 : Nat} (hdk : DK [(q0, k0)]) {Q : Bool → Prop} {S : St} {R : AV → St → Prop} (h : sifting_moved_1__e_W i u Q) (hQ : ∀ r1, Q r1 → R (AV.bool r1) (stX S [(q0, k0, .arr 1 [.int .i64 u], g0)])) :
    Ctr Try.prog 135 [AV.int .i64 i, .ptr q0 k0 g0 0 0] (stX S [(q0, k0, .arr 1 [.int .i64 u], g0)]) R := by
  unfold sifting_moved_1__e_W at h
  refine enterT Try.func135 rfl Try.ntmps135 Try.results135 (by kernel_rfl) (fun rg hrg => ?_)
  have hdx : DX [(q0, k0, .arr 1 [.int .i64 u], g0)] := hdk
  have hfr := fun X' e => fresh_set (S := S) (rg := rg) (X := [(q0, k0, .arr 1 [.int .i64 u], g0)]) (X' := X') e hrg
  have hne0 := fresh_ne hdx hrg 0 rfl
  refine qZ (rZ (asZ (.bool false) rfl (nZ (qZ (rZ (mvZ (.int .i64 i) rfl (wZ rg (o_loadB1 (atX hne0 hdx 0 rfl) sz3 ag3 rfl rfl (v := .int .i64 u) rfl (wZ rg (o_eql rfl rfl (asZ (.bool (i == u)) rfl (nZ ?_))))))))))))
  refine Vc.ret' ?_
  refine res_tmp (v := .bool (i == u)) rfl (res_nil ?_)
  show Gives _ (.bool (i == u)) _
  exact gives_out (hfr _ rfl) (VW.refl _) (hQ _ h)
theorem slices_IndexFunc___int_int__e_ctr {s : List Int} {u : Int} {q0 k0 g0 q1 k1 g1 : Nat} (hdk : DK [(q0, k0), (q1, k1)]) {Q : Int → Prop} {S : St} {R : AV → St → Prop} (h : slices_IndexFunc___int_int__e_W s u Q) (hQ : ∀ r1, Q r1 → R (AV.int .i64 r1) (stX S [(q0, k0, .arr 1 (List.map (AV.int .i64) s), g0), (q1, k1, .arr 1 [.int .i64 u], g1)])) :
    Ctr Try.prog 157 [.sl 1 q0 k0 g0 0 s.length, .fn (.func 135) [] [.ptr q1 k1 g1 0 0]] (stX S [(q0, k0, .arr 1 (List.map (AV.int .i64) s), g0), (q1, k1, .arr 1 [.int .i64 u], g1)]) R := by
  unfold slices_IndexFunc___int_int__e_W at h
  refine enterT Try.func157 rfl Try.ntmps157 Try.results157 (by kernel_rfl) (fun rg hrg => ?_)
  have hdx : DX [(q0, k0, .arr 1 (List.map (AV.int .i64) s), g0), (q1, k1, .arr 1 [.int .i64 u], g1)] := hdk
  have hfr := fun X' e => fresh_set (S := S) (rg := rg) (X := [(q0, k0, .arr 1 (List.map (AV.int .i64) s), g0), (q1, k1, .arr 1 [.int .i64 u], g1)]) (X' := X') e hrg
  have hne0 := fresh_ne hdx hrg 0 rfl
  have hne1 := fresh_ne hdx hrg 1 rfl
  refine qZ (rZ (asZ (.int .i64 0) rfl (nZ (qZ (qZ (rZ (mvZ (.sl 1 q0 k0 g0 0 s.length) rfl (wZ rg (o_lenR td25 rfl (mvZ (.int .i64 0) rfl (nZ ?_)))))))))))
  refine Vc.blk ?_
  obtain ⟨I, μ, h0, hI⟩ := h
  refine Vc.loop' (σ := (Int)) (fun y => I y) (fun y => μ y) (fun y => envOf [(0, .sl 1 q0 k0 g0 0 s.length), (1, .fn (.func 135) [] [.ptr q1 k1 g1 0 0]), (7, .int .i64 (s.length : Int)), (8, .int .i64 y)]) (fun y => stL (stX S [(q0, k0, .arr 1 (List.map (AV.int .i64) s), g0), (q1, k1, .arr 1 [.int .i64 u], g1)]) rg []) 0 (canon (fc vr (fc vr (fc vr (fc vr (fn))))) (sn)) h0 (fun x h => ?_)
  replace h := hI x h
  show Vc _ _ _ _ (envOf [(0, .sl 1 q0 k0 g0 0 s.length), (1, .fn (.func 135) [] [.ptr q1 k1 g1 0 0]), (7, .int .i64 (s.length : Int)), (8, .int .i64 x)]) (stL (stX S [(q0, k0, .arr 1 (List.map (AV.int .i64) s), g0), (q1, k1, .arr 1 [.int .i64 u], g1)]) rg [])
  refine qZ (rZ (wZ rg (o_lss rfl rfl (nZ (qZ ?_)))))
  refine Vc.cond' rfl (fun hb => ?_) (fun hb => ?_)
  · replace h := h.1 hb
    refine Vc.skip' ?_
    refine qZ ?_
    refine Vc.blk ?_
    refine qZ (rZ (mvZ (.int .i64 x) rfl (asZ (.int .i64 x) rfl (nZ (qZ (rZ (mvZ (.fn (.func 135) [] [.ptr q1 k1 g1 0 0]) rfl (mvZ (.sl 1 q0 k0 g0 0 s.length) rfl (mvZ (.int .i64 x) rfl (wZ rg (o_idxR0 td25 sz3 (by decide) rfl rfl h.1 ?_)))))))))))
    have hi := h.1
    replace h := h.2
    refine wZ rg (o_loadR1 (atX hne0 hdx 0 rfl) sz3 ag3 rfl (lt_of hi (by first | rfl | omega | (simp only [go_sem] <;> omega))) rfl (v := .int .i64 (at' s x)) rfl (wZ rg (o_call (us := [AV.int .i64 (at' s x), .ptr q1 k1 g1 0 0]) rfl (vl' vr (vl' vr (vn))) (ctrX (sx_c (atX hne1 hdx 1 rfl) (sx_n)) (sifting_moved_1__e_ctr (dk_c (ni_n) (dk_n)) h fun r h => ?_)))))
    refine Wl.eqS (sx_c (atX hne1 hdx 1 rfl) (sx_n)) ?_
    refine nZ ?_
    refine Vc.cond' rfl (fun hb1 => ?_) (fun hb1 => ?_)
    · replace h := h.1 hb1
      refine qZ (rZ (mvZ (.int .i64 x) rfl (asZ (.int .i64 x) rfl (nZ ?_))))
      refine Vc.ret' ?_
      refine res_tmp (v := .int .i64 x) rfl (res_nil ?_)
      show Gives _ (.int .i64 x) _
      exact gives_out (hfr _ rfl) (VW.refl _) (hQ _ h)
    replace h := h.2 hb1
    refine Vc.skip' ?_
    refine rZ ?_
    refine wZ rg (o_addG rfl rfl h.1 ?_)
    replace h := h.2
    refine mvZ (.int .i64 (x + 1)) rfl (nZ ?_)
    exact ⟨(x + 1), (canon (fc vr (fc vr (fc vr (fc vr (fn))))) (sn)), h⟩
  replace h := h.2 hb
  refine Vc.exit' (exB_self ?_)
  refine qZ (rZ (asZ (.int .i64 (-1)) rfl (nZ ?_)))
  refine Vc.ret' ?_
  refine res_tmp (v := .int .i64 (-1)) rfl (res_nil ?_)
  show Gives _ (.int .i64 (-1)) _
  exact gives_out (hfr _ rfl) (VW.refl _) (hQ _ h)
theorem slices_DeleteFunc___int_int__e_ctr {u : Int} {s : List Int} {q0 k0 g0 q1 k1 g1 : Nat} (hdk : DK [(q1, k1), (q0, k0)]) {Q : List Int → Prop} {S : St} {R : AV → St → Prop} (h : slices_DeleteFunc___int_int__e_W u s Q) (hQ : ∀ r1, Q r1 → R (.sl 1 q1 k1 g1 0 r1.length) (stX S [(q1, k1, .arr 1 (List.map (AV.int .i64) r1), g1), (q0, k0, .arr 1 [.int .i64 u], g0)])) :
    Ctr Try.prog 133 [.sl 1 q1 k1 g1 0 s.length, .fn (.func 135) [] [.ptr q0 k0 g0 0 0]] (stX S [(q1, k1, .arr 1 (List.map (AV.int .i64) s), g1), (q0, k0, .arr 1 [.int .i64 u], g0)]) R := by
  unfold slices_DeleteFunc___int_int__e_W at h
  refine enterT Try.func133 rfl Try.ntmps133 Try.results133 (by kernel_rfl) (fun rg hrg => ?_)
  have hdx : DX [(q1, k1, .arr 1 (List.map (AV.int .i64) s), g1), (q0, k0, .arr 1 [.int .i64 u], g0)] := hdk
  have hfr := fun X' e => fresh_set (S := S) (rg := rg) (X := [(q1, k1, .arr 1 (List.map (AV.int .i64) s), g1), (q0, k0, .arr 1 [.int .i64 u], g0)]) (X' := X') e hrg
  have hne1 := fresh_ne hdx hrg 0 rfl
  have hne0 := fresh_ne hdx hrg 1 rfl
  refine qZ (rZ (asZ .nil rfl (nZ (qZ (rZ (mvZ (.sl 1 q1 k1 g1 0 s.length) rfl (mvZ (.fn (.func 135) [] [.ptr q0 k0 g0 0 0]) rfl ?_)))))))
  refine wZ rg (o_call (us := [.sl 1 q1 k1 g1 0 s.length, .fn (.func 135) [] [.ptr q0 k0 g0 0 0]]) rfl (vl' vr (vl' vr (vn))) (ctrX (sx_c (atX hne1 hdx 0 rfl) (sx_c (atX hne0 hdx 1 rfl) (sx_n))) (slices_IndexFunc___int_int__e_ctr (dk_c (ni_c (dk_at 0 1 hdk rfl rfl rfl) (ni_n)) (dk_c (ni_n) (dk_n))) h fun i h => ?_)))
  refine Wl.eqS (sx_c (atX hne1 hdx 0 rfl) (sx_c (atX hne0 hdx 1 rfl) (sx_n))) ?_
  refine asZ (.int .i64 i) rfl (nZ (qZ (qZ (rZ (mvZ (.int .i64 i) rfl (wZ rg (o_eql rfl rfl (nZ ?_))))))))
  refine Vc.cond' rfl (fun hb => ?_) (fun hb => ?_)
  · replace h := h.1 hb
    refine qZ (rZ (mvZ (.sl 1 q1 k1 g1 0 s.length) rfl (asZ (.sl 1 q1 k1 g1 0 s.length) rfl (nZ ?_))))
    refine Vc.ret' ?_
    refine res_tmp (v := .sl 1 q1 k1 g1 0 s.length) rfl (res_nil ?_)
    show Gives _ (.sl 1 q1 k1 g1 0 s.length) _
    exact gives_out (hfr _ rfl) (VW.refl _) (hQ _ h)
  replace h := h.2 hb
  refine Vc.skip' ?_
  refine qZ (qZ (rZ (mvZ (.int .i64 i) rfl (wZ rg (o_addG rfl rfl h.1 ?_)))))
  replace h := h.2
  refine asZ (.int .i64 (i + 1)) rfl (nZ ?_)
  refine Vc.blk ?_
  obtain ⟨I, μ, h0, hI⟩ := h
  refine Vc.loop' (σ := (Int × Int × (List Int))) (fun y => I y) (fun y => μ y) (fun y => envOf [(0, .sl 1 q1 k1 g1 0 y.2.2.length), (1, .fn (.func 135) [] [.ptr q0 k0 g0 0 0]), (5, .int .i64 y.1), (6, .int .i64 y.2.1)]) (fun y => stL (stX S [(q1, k1, .arr 1 (List.map (AV.int .i64) y.2.2), g1), (q0, k0, .arr 1 [.int .i64 u], g0)]) rg []) (i, (i + 1), s) (canon (fc vr (fc vr (fc vr (fc vr (fn))))) (sn)) h0 (fun y h => ?_)
  obtain ⟨i1, j, s1⟩ := y
  replace h := hI (i1, j, s1) h
  show Vc _ _ _ _ (envOf [(0, .sl 1 q1 k1 g1 0 s1.length), (1, .fn (.func 135) [] [.ptr q0 k0 g0 0 0]), (5, .int .i64 i1), (6, .int .i64 j)]) (stL (stX S [(q1, k1, .arr 1 (List.map (AV.int .i64) s1), g1), (q0, k0, .arr 1 [.int .i64 u], g0)]) rg [])
  refine qZ (qZ (rZ (mvZ (.int .i64 j) rfl (mvZ (.sl 1 q1 k1 g1 0 s1.length) rfl (wZ rg (o_lenR td25 rfl (wZ rg (o_lss rfl rfl (nZ ?_)))))))))
  refine Vc.cond' rfl (fun hb1 => ?_) (fun hb1 => ?_)
  · replace h := h.1 hb1
    refine Vc.skip' ?_
    refine qZ ?_
    refine Vc.blk ?_
    refine qZ (rZ (mvZ (.sl 1 q1 k1 g1 0 s1.length) rfl (mvZ (.int .i64 j) rfl (wZ rg (o_idxR0 td25 sz3 (by decide) rfl rfl h.1 ?_)))))
    have hi := h.1
    replace h := h.2
    refine wZ rg (o_loadR1 (atX hne1 hdx 0 rfl) sz3 ag3 rfl (lt_of hi (by first | rfl | omega | (simp only [go_sem] <;> omega))) rfl (v := .int .i64 (at' s1 j)) rfl (asZ (.int .i64 (at' s1 j)) rfl (nZ (qZ (rZ (mvZ (.fn (.func 135) [] [.ptr q0 k0 g0 0 0]) rfl (mvZ (.int .i64 (at' s1 j)) rfl ?_)))))))
    refine wZ rg (o_call (us := [AV.int .i64 (at' s1 j), .ptr q0 k0 g0 0 0]) rfl (vl' vr (vl' vr (vn))) (ctrX (sx_c (atX hne0 hdx 1 rfl) (sx_n)) (sifting_moved_1__e_ctr (dk_c (ni_n) (dk_n)) h fun r h => ?_)))
    refine Wl.eqS (sx_c (atX hne0 hdx 1 rfl) (sx_n)) ?_
    refine wZ rg (o_not rfl (nZ ?_))
    refine Vc.cond' rfl (fun hb2 => ?_) (fun hb2 => ?_)
    · replace h := h.1 hb2
      refine qZ (rZ (mvZ (.sl 1 q1 k1 g1 0 s1.length) rfl (mvZ (.int .i64 i1) rfl (mvZ (.int .i64 (at' s1 j)) rfl (wZ rg (o_idxR0 td25 sz3 (by decide) rfl rfl h.1 ?_))))))
      have hi1 := h.1
      replace h := h.2
      refine wZ rg (o_storeR1 (atX hne1 hdx 0 rfl) sz3 (by decide) (x' := (at' s1 j)) (fun _ => rfl) rfl rfl (lt_of hi1 (by first | rfl | omega | (simp only [go_sem] <;> omega))) rfl rfl (setX hne1 hdx 0 rfl rfl) (nZ (rZ (mvZ (.int .i64 i1) rfl (wZ rg (o_addG rfl rfl h.1 ?_))))))
      replace h := h.2
      refine asZ (.int .i64 (i1 + 1)) rfl (nZ (rZ (mvZ (.int .i64 j) rfl (wZ rg (o_addG rfl rfl h.1 ?_)))))
      replace h := h.2
      refine asZ (.int .i64 (j + 1)) rfl (nZ ?_)
      exact ⟨((i1 + 1), (j + 1), (set' s1 i1 (at' s1 j))), (canon (fc (VW.slen (by first | rfl | omega | (simp only [go_sem] <;> omega))) (fc vr (fc vr (fc vr (fn))))) (sn)), h⟩
    replace h := h.2 hb2
    refine Vc.skip' ?_
    refine rZ ?_
    refine mvZ (.int .i64 j) rfl (wZ rg (o_addG rfl rfl h.1 ?_))
    replace h := h.2
    refine asZ (.int .i64 (j + 1)) rfl (nZ ?_)
    exact ⟨(i1, (j + 1), s1), (canon (fc vr (fc vr (fc vr (fc vr (fn))))) (sn)), h⟩
  replace h := h.2 hb1
  refine Vc.exit' (exB_self ?_)
  refine qZ (rZ (mvZ (.sl 1 q1 k1 g1 0 s1.length) rfl (mvZ (.int .i64 i1) rfl (wZ rg (o_sliceR td25 sz3 (by decide) rfl (l := i1) (h := (s1.length : Int)) rfl rfl h.1 ?_)))))
  have hsl := h.1
  replace h := h.2
  refine Wl.clear td25 ok3 rfl (atX hne1 hdx 0 rfl) zav3 rfl rfl rfl (setX hne1 hdx 0 rfl rfl) ?_
  refine nZ (qZ (rZ (mvZ (.sl 1 q1 k1 g1 0 s1.length) rfl (mvZ (.int .i64 i1) rfl (wZ rg (o_sliceH td25 sz3 (by decide) rfl (h := i1) rfl h.1 ?_))))))
  have hsl1 := h.1
  replace h := h.2
  refine asZ (.sl 1 q1 k1 g1 0 (Int.toNat i1)) rfl (nZ ?_)
  refine Vc.ret' ?_
  refine res_tmp (v := .sl 1 q1 k1 g1 0 (Int.toNat i1)) rfl (res_nil ?_)
  show Gives _ (.sl 1 q1 k1 g1 0 (Int.toNat i1)) _
  refine gives_cut (Int.toNat i1) (atX hne1 hdx 0 rfl) rfl (setX hne1 hdx 0 rfl rfl) ?_
  exact gives_out (hfr _ rfl) (VW.slen (by first | rfl | omega | (simp only [go_sem] <;> omega))) (hQ _ h)
theorem sifting_moved_ctr {o : List Int} {event : Int} {place : Int} {Q : List Int → Prop} {S : St} {R : AV → St → Prop} (h : sifting_moved_W o event place Q) (hQ : ∀ r1, Q r1 → R (eL (AV.int .i64) r1) S) :
    Ctr Try.prog 91 [eL (AV.int .i64) o, AV.int .i64 event, AV.int .i64 place] S R := by
  unfold sifting_moved_W at h
  refine enterT Try.func91 rfl Try.ntmps91 Try.results91 (by kernel_rfl) (fun rg hrg => ?_)
  refine qZ (rZ (wZ rg (o_box (v := .int .i64 event) rfl rfl (kk := 1) rfl (by decide) (fun g1 => (asZ .nil rfl (nZ (qZ (rZ (mvZ (eL (AV.int .i64) o) rfl (wZ rg (o_call (us := [eL (AV.int .i64) o]) rfl (vl' vr (vn)) (slices_Clone___int_int_ctrO rg 9 h fun r g2 h => ?_))))))))))))
  refine Wl.eqS setL ?_
  refine wZ rg (o_func (vs := []) (us := [.ptr rg 4 g1 0 0]) rfl rfl (wZ rg (o_call (us := [.sl 1 rg 9 g2 0 r.length, .fn (.func 135) [] [.ptr rg 4 g1 0 0]]) rfl (vl' vr (vl' vr (vn))) (ctrX (sx_c (atL (k := 9) rfl) (sx_c (atL (k := 4) rfl) (sx_n))) (slices_DeleteFunc___int_int__e_ctr (dk_c (ni_c (ni_o rfl) (ni_n)) (dk_c (ni_n) (dk_n))) h fun u h => ?_)))))
  refine Wl.eqS (sy_c (sx_c (atL (k := 4) rfl) (sx_n)) setL) ?_
  refine asZ (.sl 1 rg 9 g2 0 u.length) rfl (nZ (qZ (rZ (mvZ (.sl 1 rg 9 g2 0 u.length) rfl (mvZ (.int .i64 place) rfl (wZ rg (o_loadB1 (atL (k := 4) rfl) sz3 ag3 rfl rfl (v := .int .i64 event) rfl (wZ rg (o_bslice td25 ok3 zav3 (es := [.int .i64 event]) rfl (kk := 1) rfl rfl rfl rfl rfl rfl (fun g3 => ?_))))))))))
  refine wZ rg (o_call (us := [.sl 1 rg 9 g2 0 u.length, AV.int .i64 place, .sl 1 rg 15 g3 0 ([event].length)]) rfl (vl' vr (vl' vr (vl' vr (vn)))) (ctrX (sx_c (atL (k := 9) rfl) (sx_c (atL (k := 15) rfl) (sx_n))) (slices_Insert_int__e_ctr (dk_c (ni_c (ni_o rfl) (ni_n)) (dk_c (ni_n) (dk_n))) h fun rest g4 h => ?_)))
  refine Wl.eqS (sy_c (sx_c (atL (k := 15) rfl) (sx_n)) setL) ?_
  refine asZ (.sl 1 rg 9 g4 0 rest.length) rfl (nZ ?_)
  refine Vc.ret' ?_
  refine res_tmp (v := .sl 1 rg 9 g4 0 rest.length) rfl (res_nil ?_)
  show Gives _ (.sl 1 rg 9 g4 0 rest.length) _
  refine gives_freeze (k := 9) (xs := List.map (AV.int .i64) rest) rfl (v' := eL (AV.int .i64) rest) (frz_full rfl) ?_
  exact gives_out hrg (VW.refl _) (hQ _ h)
theorem sifting_Sift_1__e_ctr {a : Int} {b : Int} {u : List Int} {q0 k0 g0 q1 k1 g1 : Nat} (hdk : DK [(q0, k0), (q1, k1)]) {Q : Int → Prop} {S : St} {R : AV → St → Prop} (h : sifting_Sift_1__e_W a b u Q) (hQ : ∀ r1, Q r1 → R (AV.int .i64 r1) (stX S [(q0, k0, .arr 1 [.sl 1 q1 k1 g1 0 u.length], g0), (q1, k1, .arr 1 (List.map (AV.int .i64) u), g1)])) :
    Ctr Try.prog 89 [AV.int .i64 a, AV.int .i64 b, .ptr q0 k0 g0 0 0] (stX S [(q0, k0, .arr 1 [.sl 1 q1 k1 g1 0 u.length], g0), (q1, k1, .arr 1 (List.map (AV.int .i64) u), g1)]) R := by
  unfold sifting_Sift_1__e_W at h
  refine enterT Try.func89 rfl Try.ntmps89 Try.results89 (by kernel_rfl) (fun rg hrg => ?_)
  have hdx : DX [(q0, k0, .arr 1 [.sl 1 q1 k1 g1 0 u.length], g0), (q1, k1, .arr 1 (List.map (AV.int .i64) u), g1)] := hdk
  have hfr := fun X' e => fresh_set (S := S) (rg := rg) (X := [(q0, k0, .arr 1 [.sl 1 q1 k1 g1 0 u.length], g0), (q1, k1, .arr 1 (List.map (AV.int .i64) u), g1)]) (X' := X') e hrg
  have hne0 := fresh_ne hdx hrg 0 rfl
  have hne1 := fresh_ne hdx hrg 1 rfl
  refine qZ (rZ (asZ (.int .i64 0) rfl (nZ (qZ ?_))))
  have hi := h.1
  replace h := h.2
  have hi1 := h.1
  replace h := h.2
  have hg := h.1
  replace h := h.2
  refine Vc.drawn' mixed rg (fun _ => jcr2) (by kernel_rfl) ?_
  refine dL (E := ([(q0, k0)], [])) rfl rfl (by simp) (cfn) (o_loadB1 (atX hne0 hdx 0 rfl) sz25 ag25 rfl rfl (v := .sl 1 q1 k1 g1 0 u.length) rfl (dP rfl rfl (o_move (v := .int .i64 b) rfl (dP rfl rfl (o_idxR0 td25 sz3 (by decide) rfl rfl hi ?_)))))
  refine dL (E := ([(q1, k1)], [])) rfl rfl (by simp) (cfo (by kernel_rfl) (cfn)) (o_loadR1 (atX hne1 hdx 1 rfl) sz3 ag3 rfl (lt_of hi (by first | rfl | omega | (simp only [go_sem] <;> omega))) rfl (v := .int .i64 (at' u b)) rfl ?_)
  refine dL (E := ([(q0, k0)], [])) rfl rfl (by simp) (cfa (by simp [apartE]) (cfa (by simp [apartE]) (cfn))) (o_loadB1 (atX hne0 hdx 0 rfl) sz25 ag25 rfl rfl (v := .sl 1 q1 k1 g1 0 u.length) rfl (dP rfl rfl (o_move (v := .int .i64 a) rfl (dP rfl rfl (o_idxR0 td25 sz3 (by decide) rfl rfl hi1 ?_)))))
  refine dL (E := ([(q1, k1)], [])) rfl rfl (by simp) (cfo (by kernel_rfl) (cfa (by simp [apartE]) (cfa (by simp [apartE]) (cfn)))) (o_loadR1 (atX hne1 hdx 1 rfl) sz3 ag3 rfl (lt_of hi1 (by first | rfl | omega | (simp only [go_sem] <;> omega))) rfl (v := .int .i64 (at' u a)) rfl (dP rfl rfl (o_subG rfl rfl hg (dP rfl rfl (o_assign (v := .int .i64 ((at' u b) - (at' u a))) rfl (dN ?_))))))
  refine Vc.ret' ?_
  refine res_tmp (v := .int .i64 ((at' u b) - (at' u a))) rfl (res_nil ?_)
  show Gives _ (.int .i64 ((at' u b) - (at' u a))) _
  exact gives_out (hfr _ rfl) (VW.refl _) (hQ _ h)
theorem slices_insertionSortCmpFunc_int__e_ctr {a : Int} {b : Int} {data : List Int} {u : List Int} {q0 k0 g0 q1 k1 g1 q2 k2 g2 : Nat} (hdk : DK [(q0, k0), (q1, k1), (q2, k2)]) {Q : List Int → Prop} {S : St} {R : AV → St → Prop} (h : slices_insertionSortCmpFunc_int__e_W a b data u Q) (hQ : ∀ r1, Q r1 → R (.tuple []) (stX S [(q0, k0, .arr 1 (List.map (AV.int .i64) r1), g0), (q1, k1, .arr 1 [.sl 1 q2 k2 g2 0 u.length], g1), (q2, k2, .arr 1 (List.map (AV.int .i64) u), g2)])) :
    Ctr Try.prog 155 [.sl 1 q0 k0 g0 0 data.length, AV.int .i64 a, AV.int .i64 b, .fn (.func 89) [] [.ptr q1 k1 g1 0 0]] (stX S [(q0, k0, .arr 1 (List.map (AV.int .i64) data), g0), (q1, k1, .arr 1 [.sl 1 q2 k2 g2 0 u.length], g1), (q2, k2, .arr 1 (List.map (AV.int .i64) u), g2)]) R := by
  unfold slices_insertionSortCmpFunc_int__e_W at h
  refine enterT Try.func155 rfl Try.ntmps155 Try.results155 (by kernel_rfl) (fun rg hrg => ?_)
  have hdx : DX [(q0, k0, .arr 1 (List.map (AV.int .i64) data), g0), (q1, k1, .arr 1 [.sl 1 q2 k2 g2 0 u.length], g1), (q2, k2, .arr 1 (List.map (AV.int .i64) u), g2)] := hdk
  have hfr := fun X' e => fresh_set (S := S) (rg := rg) (X := [(q0, k0, .arr 1 (List.map (AV.int .i64) data), g0), (q1, k1, .arr 1 [.sl 1 q2 k2 g2 0 u.length], g1), (q2, k2, .arr 1 (List.map (AV.int .i64) u), g2)]) (X' := X') e hrg
  have hne0 := fresh_ne hdx hrg 0 rfl
  have hne1 := fresh_ne hdx hrg 1 rfl
  have hne2 := fresh_ne hdx hrg 2 rfl
  refine qZ (rZ (mvZ (.int .i64 a) rfl (wZ rg (o_addG rfl rfl h.1 ?_))))
  replace h := h.2
  refine asZ (.int .i64 (a + 1)) rfl (nZ ?_)
  refine Vc.blk ?_
  obtain ⟨I, μ, h0, hI⟩ := h
  refine Vc.loop' (σ := (Int × (List Int))) (fun y => I y) (fun y => μ y) (fun y => envOf [(0, .sl 1 q0 k0 g0 0 y.2.length), (1, .int .i64 a), (2, .int .i64 b), (3, .fn (.func 89) [] [.ptr q1 k1 g1 0 0]), (8, .int .i64 y.1)]) (fun y => stL (stX S [(q0, k0, .arr 1 (List.map (AV.int .i64) y.2), g0), (q1, k1, .arr 1 [.sl 1 q2 k2 g2 0 u.length], g1), (q2, k2, .arr 1 (List.map (AV.int .i64) u), g2)]) rg []) ((a + 1), data) (canon (fc vr (fc vr (fc vr (fc vr (fc vr (fn)))))) (sn)) h0 (fun y h => ?_)
  obtain ⟨i, data1⟩ := y
  replace h := hI (i, data1) h
  show Vc _ _ _ _ (envOf [(0, .sl 1 q0 k0 g0 0 data1.length), (1, .int .i64 a), (2, .int .i64 b), (3, .fn (.func 89) [] [.ptr q1 k1 g1 0 0]), (8, .int .i64 i)]) (stL (stX S [(q0, k0, .arr 1 (List.map (AV.int .i64) data1), g0), (q1, k1, .arr 1 [.sl 1 q2 k2 g2 0 u.length], g1), (q2, k2, .arr 1 (List.map (AV.int .i64) u), g2)]) rg [])
  refine qZ (qZ (rZ (mvZ (.int .i64 i) rfl (mvZ (.int .i64 b) rfl (wZ rg (o_lss rfl rfl (nZ ?_)))))))
  refine Vc.cond' rfl (fun hb => ?_) (fun hb => ?_)
  · replace h := h.1 hb
    refine Vc.skip' ?_
    refine qZ ?_
    refine Vc.blk ?_
    refine qZ (rZ (mvZ (.int .i64 i) rfl (asZ (.int .i64 i) rfl (nZ ?_))))
    refine Vc.blk ?_
    obtain ⟨I, μ, h0, hI⟩ := h
    refine Vc.loop' (σ := (Int × (List Int))) (fun y => I y) (fun y => μ y) (fun y => envOf [(0, .sl 1 q0 k0 g0 0 y.2.length), (1, .int .i64 a), (2, .int .i64 b), (3, .fn (.func 89) [] [.ptr q1 k1 g1 0 0]), (8, .int .i64 i), (9, .int .i64 y.1)]) (fun y => stL (stX S [(q0, k0, .arr 1 (List.map (AV.int .i64) y.2), g0), (q1, k1, .arr 1 [.sl 1 q2 k2 g2 0 u.length], g1), (q2, k2, .arr 1 (List.map (AV.int .i64) u), g2)]) rg []) (i, data1) (canon (fc vr (fc vr (fc vr (fc vr (fc vr (fc vr (fn))))))) (sn)) h0 (fun y h => ?_)
    obtain ⟨j, data2⟩ := y
    replace h := hI (j, data2) h
    show Vc _ _ _ _ (envOf [(0, .sl 1 q0 k0 g0 0 data2.length), (1, .int .i64 a), (2, .int .i64 b), (3, .fn (.func 89) [] [.ptr q1 k1 g1 0 0]), (8, .int .i64 i), (9, .int .i64 j)]) (stL (stX S [(q0, k0, .arr 1 (List.map (AV.int .i64) data2), g0), (q1, k1, .arr 1 [.sl 1 q2 k2 g2 0 u.length], g1), (q2, k2, .arr 1 (List.map (AV.int .i64) u), g2)]) rg [])
    refine qZ (qZ ?_)
    rcases Bool.eq_false_or_eq_true (decide (a < j)) with hb1 | hb1
    · replace h := h.1 hb1
      have hi := h.1
      replace h := h.2
      have hg := h.1
      replace h := h.2
      have hi1 := h.1
      replace h := h.2
      obtain ⟨r, hc, h⟩ := h
      refine Vc.drawn' mixed rg (usOf [(14, wc (fun _ => .int .i64 r) [(q1, k1), (q2, k2)] [] (fun _ => []))]) (by kernel_rfl) ?_
      refine dP rfl rfl (o_move (v := .int .i64 j) rfl (dP rfl rfl (o_move (v := .int .i64 a) rfl (dP rfl rfl (o_gtr rfl rfl (dP rfl rfl (o_move (v := .bool (decide (a < j))) rfl ?_)))))))
      refine dGT rfl rfl hb1 ?_
      refine dP rfl rfl (o_move (v := .fn (.func 89) [] [.ptr q1 k1 g1 0 0]) rfl ?_)
      refine dGT rfl rfl rfl ?_
      refine dP rfl rfl (o_move (v := .sl 1 q0 k0 g0 0 data2.length) rfl ?_)
      refine dGT rfl rfl rfl ?_
      refine dP rfl rfl (o_move (v := .int .i64 j) rfl ?_)
      refine dGT rfl rfl rfl ?_
      refine dP rfl rfl (o_idxR0 td25 sz3 (by decide) rfl rfl hi ?_)
      refine dGT rfl rfl rfl ?_
      refine dL (E := ([(q0, k0)], [])) rfl rfl (by simp) (cfn) (o_loadR1 (atX hne0 hdx 0 rfl) sz3 ag3 rfl (lt_of hi (by first | rfl | omega | (simp only [go_sem] <;> omega))) rfl (v := .int .i64 (at' data2 j)) rfl ?_)
      refine dGT rfl rfl rfl ?_
      refine dP rfl rfl (o_move (v := .sl 1 q0 k0 g0 0 data2.length) rfl ?_)
      refine dGT rfl rfl rfl ?_
      refine dP rfl rfl (o_move (v := .int .i64 j) rfl ?_)
      refine dGT rfl rfl rfl ?_
      refine dP rfl rfl (o_subG rfl rfl hg ?_)
      refine dGT rfl rfl rfl ?_
      refine dP rfl rfl (o_idxR0 td25 sz3 (by decide) rfl rfl hi1 ?_)
      refine dGT rfl rfl rfl ?_
      refine dL (E := ([(q0, k0)], [])) rfl rfl (by simp) (cfa (by simp [apartE]) (cfn)) (o_loadR1 (atX hne0 hdx 0 rfl) sz3 ag3 rfl (lt_of hi1 (by first | rfl | omega | (simp only [go_sem] <;> omega))) rfl (v := .int .i64 (at' data2 (j - 1))) rfl ?_)
      refine dGT rfl rfl rfl ?_
      refine dCE (vs := [AV.int .i64 (at' data2 j), AV.int .i64 (at' data2 (j - 1)), .ptr q1 k1 g1 0 0]) (V := fun _ => .int .i64 r) (rd := [(q1, k1), (q2, k2)]) (wk := []) (wr := fun _ => []) rfl (vl' vr (vl' vr (vl' vr (vn)))) rfl (cfo (by kernel_rfl) (cfo (by kernel_rfl) (cfn))) (by simp) (fun _ => rfl) (fun S' hA hB => ctrX (sx_c (ag hA 0 rfl (atX hne1 hdx 1 rfl)) (sx_c (ag hA 1 rfl (atX hne2 hdx 2 rfl)) (sx_n))) (sifting_Sift_1__e_ctr (dk_c (ni_c (dk_at 1 2 hdk rfl rfl rfl) (ni_n)) (dk_c (ni_n) (dk_n))) hc (fun _ he => by obtain rfl := he; exact ⟨fun i => ([] : List Nat).getD i 0, rfl, sx_c (ag hA 0 rfl (atX hne1 hdx 1 rfl)) (sx_c (ag hA 1 rfl (atX hne2 hdx 2 rfl)) (sx_n))⟩))) (fun _ => ?_)
      refine vdT.eqS (sa_n) ?_
      refine dGT rfl rfl rfl ?_
      refine dP rfl rfl (o_lss rfl rfl (dP rfl rfl (o_pickT rfl rfl (v := .bool (decide (r < 0))) rfl (dN ?_))))
      refine Vc.cond' rfl (fun hb2 => ?_) (fun hb2 => ?_)
      · replace h := h.1 hb2
        refine Vc.skip' ?_
        refine qZ ?_
        refine Vc.blk ?_
        have hg1 := h.1
        replace h := h.2
        have hg2 := h.1
        replace h := h.2
        have hi2 := h.1
        replace h := h.2
        have hi3 := h.1
        replace h := h.2
        have hi4 := h.1
        replace h := h.2
        have hi5 := h.1
        replace h := h.2
        refine Vc.drawn' mixed rg (fun _ => jcr2) (by kernel_rfl) ?_
        refine dP rfl rfl (o_move (v := .sl 1 q0 k0 g0 0 data2.length) rfl (dP rfl rfl (o_move (v := .int .i64 j) rfl (dP rfl rfl (o_move (v := .sl 1 q0 k0 g0 0 data2.length) rfl (dP rfl rfl (o_move (v := .int .i64 j) rfl (dP rfl rfl (o_subG rfl rfl hg1 (dP rfl rfl (o_move (v := .sl 1 q0 k0 g0 0 data2.length) rfl (dP rfl rfl (o_move (v := .int .i64 j) rfl (dP rfl rfl (o_subG rfl rfl hg2 ?_)))))))))))))))
        refine dP rfl rfl (o_idxR0 td25 sz3 (by decide) rfl rfl hi2 (dL (E := ([(q0, k0)], [])) rfl rfl (by simp) (cfn) (o_loadR1 (atX hne0 hdx 0 rfl) sz3 ag3 rfl (lt_of hi2 (by first | rfl | omega | (simp only [go_sem] <;> omega))) rfl (v := .int .i64 (at' data2 (j - 1))) rfl (dP rfl rfl (o_move (v := .sl 1 q0 k0 g0 0 data2.length) rfl (dP rfl rfl (o_move (v := .int .i64 j) rfl ?_)))))))
        refine dP rfl rfl (o_idxR0 td25 sz3 (by decide) rfl rfl hi3 (dL (E := ([(q0, k0)], [])) rfl rfl (by simp) (cfa (by simp [apartE]) (cfn)) (o_loadR1 (atX hne0 hdx 0 rfl) sz3 ag3 rfl (lt_of hi3 (by first | rfl | omega | (simp only [go_sem] <;> omega))) rfl (v := .int .i64 (at' data2 j)) rfl (dP rfl rfl (o_idxR0 td25 sz3 (by decide) rfl rfl hi4 ?_)))))
        refine dL (E := ([], [(q0, k0)])) rfl rfl (by simp) (cfo (by kernel_rfl) (cfo (by kernel_rfl) (cfn))) (o_storeR1 (atX hne0 hdx 0 rfl) sz3 (by decide) (x' := (at' data2 (j - 1))) (fun _ => rfl) rfl rfl (lt_of hi4 (by first | rfl | omega | (simp only [go_sem] <;> omega))) rfl rfl (setX hne0 hdx 0 rfl rfl) (dP rfl rfl (o_idxR0 td25 sz3 (by decide) rfl rfl hi5 ?_)))
        refine dL (E := ([], [(q0, k0)])) rfl rfl (by simp) (cfo (by kernel_rfl) (cfo (by kernel_rfl) (cfo (by kernel_rfl) (cfn)))) (o_storeR1 (atX hne0 hdx 0 rfl) sz3 (by decide) (x' := (at' data2 j)) (fun _ => rfl) rfl rfl (lt_of hi5 (by first | rfl | omega | (simp only [go_sem] <;> omega))) rfl rfl (setX hne0 hdx 0 rfl rfl) (dN (rZ (mvZ (.int .i64 j) rfl (wZ rg (o_subG rfl rfl h.1 ?_))))))
        replace h := h.2
        refine asZ (.int .i64 (j - 1)) rfl (nZ ?_)
        exact ⟨((j - 1), (set' (set' data2 j (at' data2 (j - 1))) (j - 1) (at' data2 j))), (canon (fc (VW.slen (by first | rfl | omega | (simp only [go_sem] <;> omega))) (fc vr (fc vr (fc vr (fc vr (fc vr (fn))))))) (sn)), h⟩
      replace h := h.2 hb2
      refine Vc.exit' (exB_self ?_)
      refine rZ ?_
      refine mvZ (.int .i64 i) rfl (wZ rg (o_addG rfl rfl h.1 ?_))
      replace h := h.2
      refine asZ (.int .i64 (i + 1)) rfl (nZ ?_)
      exact ⟨((i + 1), data2), (canon (fc vr (fc vr (fc vr (fc vr (fc vr (fn)))))) (sn)), h⟩
    replace h := h.2 hb1
    refine Vc.drawn' mixed rg (fun _ => jcr2) (by kernel_rfl) ?_
    refine dP rfl rfl (o_move (v := .int .i64 j) rfl (dP rfl rfl (o_move (v := .int .i64 a) rfl (dP rfl rfl (o_gtr rfl rfl (dP rfl rfl (o_move (v := .bool (decide (a < j))) rfl ?_)))))))
    refine dGF rfl rfl hb1 rfl ?_
    refine dGF rfl rfl rfl rfl ?_
    refine dGF rfl rfl rfl rfl ?_
    refine dGF rfl rfl rfl rfl ?_
    refine dGF rfl rfl rfl rfl ?_
    refine dGF rfl rfl rfl rfl ?_
    refine dGF rfl rfl rfl rfl ?_
    refine dGF rfl rfl rfl rfl ?_
    refine dGF rfl rfl rfl rfl ?_
    refine dGF rfl rfl rfl rfl ?_
    refine dGF rfl rfl rfl rfl ?_
    refine dGF rfl rfl rfl rfl ?_
    refine dP rfl rfl (o_pickF rfl rfl (v := .bool false) rfl (dN ?_))
    refine Vc.cond' rfl (fun hb => Bool.noConfusion hb) (fun _ => ?_)
    refine Vc.exit' (exB_self ?_)
    refine rZ ?_
    refine mvZ (.int .i64 i) rfl (wZ rg (o_addG rfl rfl h.1 ?_))
    replace h := h.2
    refine asZ (.int .i64 (i + 1)) rfl (nZ ?_)
    exact ⟨((i + 1), data2), (canon (fc vr (fc vr (fc vr (fc vr (fc vr (fn)))))) (sn)), h⟩
  replace h := h.2 hb
  refine Vc.exit' (exB_self ?_)
  refine res_nil ?_
  show Gives _ (.tuple []) _
  exact gives_out (hfr _ rfl) (VW.refl _) (hQ _ h)
theorem slices_stableCmpFunc_int__e_ctr {n : Int} {data : List Int} {u : List Int} {q0 k0 g0 q1 k1 g1 q2 k2 g2 : Nat} (hdk : DK [(q0, k0), (q1, k1), (q2, k2)]) {Q : List Int → Prop} {S : St} {R : AV → St → Prop} (h : slices_stableCmpFunc_int__e_W n data u Q) (hQ : ∀ r1, Q r1 → R (.tuple []) (stX S [(q0, k0, .arr 1 (List.map (AV.int .i64) r1), g0), (q1, k1, .arr 1 [.sl 1 q2 k2 g2 0 u.length], g1), (q2, k2, .arr 1 (List.map (AV.int .i64) u), g2)])) :
    Ctr Try.prog 131 [.sl 1 q0 k0 g0 0 data.length, AV.int .i64 n, .fn (.func 89) [] [.ptr q1 k1 g1 0 0]] (stX S [(q0, k0, .arr 1 (List.map (AV.int .i64) data), g0), (q1, k1, .arr 1 [.sl 1 q2 k2 g2 0 u.length], g1), (q2, k2, .arr 1 (List.map (AV.int .i64) u), g2)]) R := by
  unfold slices_stableCmpFunc_int__e_W at h
  refine enterT Try.func131 rfl Try.ntmps131 Try.results131 (by kernel_rfl) (fun rg hrg => ?_)
  have hdx : DX [(q0, k0, .arr 1 (List.map (AV.int .i64) data), g0), (q1, k1, .arr 1 [.sl 1 q2 k2 g2 0 u.length], g1), (q2, k2, .arr 1 (List.map (AV.int .i64) u), g2)] := hdk
  have hfr := fun X' e => fresh_set (S := S) (rg := rg) (X := [(q0, k0, .arr 1 (List.map (AV.int .i64) data), g0), (q1, k1, .arr 1 [.sl 1 q2 k2 g2 0 u.length], g1), (q2, k2, .arr 1 (List.map (AV.int .i64) u), g2)]) (X' := X') e hrg
  have hne0 := fresh_ne hdx hrg 0 rfl
  have hne1 := fresh_ne hdx hrg 1 rfl
  have hne2 := fresh_ne hdx hrg 2 rfl
  refine qZ (rZ (asZ (.int .i64 20) rfl (nZ (qZ (rZ (mvZ (.int .i64 20) rfl (asZ (.int .i64 0) rfl (asZ (.int .i64 20) rfl (nZ (qZ ?_))))))))))
  refine Vc.blk ?_
  obtain ⟨I, μ, h0, hI⟩ := h
  refine Vc.loop' (σ := (Int × Int × (List Int))) (fun y => I y) (fun y => μ y) (fun y => envOf [(0, .sl 1 q0 k0 g0 0 y.2.2.length), (1, .int .i64 n), (2, .fn (.func 89) [] [.ptr q1 k1 g1 0 0]), (6, .int .i64 20), (7, .int .i64 y.1), (8, .int .i64 y.2.1)]) (fun y => stL (stX S [(q0, k0, .arr 1 (List.map (AV.int .i64) y.2.2), g0), (q1, k1, .arr 1 [.sl 1 q2 k2 g2 0 u.length], g1), (q2, k2, .arr 1 (List.map (AV.int .i64) u), g2)]) rg []) (0, 20, data) (canon (fc vr (fc vr (fc vr (fc vr (fc vr (fc vr (fn))))))) (sn)) h0 (fun y h => ?_)
  obtain ⟨a, b, data1⟩ := y
  replace h := hI (a, b, data1) h
  show Vc _ _ _ _ (envOf [(0, .sl 1 q0 k0 g0 0 data1.length), (1, .int .i64 n), (2, .fn (.func 89) [] [.ptr q1 k1 g1 0 0]), (6, .int .i64 20), (7, .int .i64 a), (8, .int .i64 b)]) (stL (stX S [(q0, k0, .arr 1 (List.map (AV.int .i64) data1), g0), (q1, k1, .arr 1 [.sl 1 q2 k2 g2 0 u.length], g1), (q2, k2, .arr 1 (List.map (AV.int .i64) u), g2)]) rg [])
  refine qZ (qZ (rZ (mvZ (.int .i64 b) rfl (mvZ (.int .i64 n) rfl (wZ rg (o_leq rfl rfl (nZ ?_)))))))
  refine Vc.cond' rfl (fun hb => ?_) (fun hb => ?_)
  · replace h := h.1 hb
    refine Vc.skip' ?_
    refine Vc.blk ?_
    refine qZ (rZ (mvZ (.sl 1 q0 k0 g0 0 data1.length) rfl (mvZ (.int .i64 a) rfl (mvZ (.int .i64 b) rfl (mvZ (.fn (.func 89) [] [.ptr q1 k1 g1 0 0]) rfl ?_)))))
    refine wZ rg (o_call (us := [.sl 1 q0 k0 g0 0 data1.length, AV.int .i64 a, AV.int .i64 b, .fn (.func 89) [] [.ptr q1 k1 g1 0 0]]) rfl (vl' vr (vl' vr (vl' vr (vl' vr (vn))))) (ctrX (sx_c (atX hne0 hdx 0 rfl) (sx_c (atX hne1 hdx 1 rfl) (sx_c (atX hne2 hdx 2 rfl) (sx_n)))) (slices_insertionSortCmpFunc_int__e_ctr (dk_c (ni_c (dk_at 0 1 hdk rfl rfl rfl) (ni_c (dk_at 0 2 hdk rfl rfl rfl) (ni_n))) (dk_c (ni_c (dk_at 1 2 hdk rfl rfl rfl) (ni_n)) (dk_c (ni_n) (dk_n)))) h fun data2 h => ?_)))
    refine Wl.eqS (sy_c (sx_c (atX hne1 hdx 1 rfl) (sx_c (atX hne2 hdx 2 rfl) (sx_n))) (setX hne0 hdx 0 rfl rfl)) ?_
    have hl := h.1
    replace h := h.2
    refine nZ (qZ (rZ (mvZ (.int .i64 b) rfl (asZ (.int .i64 b) rfl (nZ (rZ (mvZ (.int .i64 b) rfl (mvZ (.int .i64 20) rfl (wZ rg (o_addG rfl rfl h.1 ?_))))))))))
    replace h := h.2
    refine asZ (.int .i64 (b + 20)) rfl (nZ ?_)
    exact ⟨(b, (b + 20), data2), (canon (fc (VW.slen (by first | rfl | omega | (simp only [go_sem] <;> omega))) (fc vr (fc vr (fc vr (fc vr (fc vr (fn))))))) (sn)), h⟩
  replace h := h.2 hb
  refine Vc.exit' (exB_self ?_)
  refine qZ (rZ (mvZ (.sl 1 q0 k0 g0 0 data1.length) rfl (mvZ (.int .i64 a) rfl (mvZ (.int .i64 n) rfl (mvZ (.fn (.func 89) [] [.ptr q1 k1 g1 0 0]) rfl ?_)))))
  refine wZ rg (o_call (us := [.sl 1 q0 k0 g0 0 data1.length, AV.int .i64 a, AV.int .i64 n, .fn (.func 89) [] [.ptr q1 k1 g1 0 0]]) rfl (vl' vr (vl' vr (vl' vr (vl' vr (vn))))) (ctrX (sx_c (atX hne0 hdx 0 rfl) (sx_c (atX hne1 hdx 1 rfl) (sx_c (atX hne2 hdx 2 rfl) (sx_n)))) (slices_insertionSortCmpFunc_int__e_ctr (dk_c (ni_c (dk_at 0 1 hdk rfl rfl rfl) (ni_c (dk_at 0 2 hdk rfl rfl rfl) (ni_n))) (dk_c (ni_c (dk_at 1 2 hdk rfl rfl rfl) (ni_n)) (dk_c (ni_n) (dk_n)))) h fun data3 h => ?_)))
  refine Wl.eqS (sy_c (sx_c (atX hne1 hdx 1 rfl) (sx_c (atX hne2 hdx 2 rfl) (sx_n))) (setX hne0 hdx 0 rfl rfl)) ?_
  have hl1 := h.1
  replace h := h.2
  refine nZ ?_
  refine Vc.blk ?_
  obtain ⟨I, μ, h0, hI⟩ := h
  refine Vc.loop' (σ := (Int)) (fun y => I y) (fun y => μ y) (fun y => envOf [(0, .sl 1 q0 k0 g0 0 data1.length), (1, .int .i64 n), (2, .fn (.func 89) [] [.ptr q1 k1 g1 0 0]), (6, .int .i64 y)]) (fun y => stL (stX S [(q0, k0, .arr 1 (List.map (AV.int .i64) data3), g0), (q1, k1, .arr 1 [.sl 1 q2 k2 g2 0 u.length], g1), (q2, k2, .arr 1 (List.map (AV.int .i64) u), g2)]) rg []) 20 (canon (fc vr (fc vr (fc vr (fc vr (fn))))) (sn)) h0 (fun blockSize h => ?_)
  replace h := hI blockSize h
  show Vc _ _ _ _ (envOf [(0, .sl 1 q0 k0 g0 0 data1.length), (1, .int .i64 n), (2, .fn (.func 89) [] [.ptr q1 k1 g1 0 0]), (6, .int .i64 blockSize)]) (stL (stX S [(q0, k0, .arr 1 (List.map (AV.int .i64) data3), g0), (q1, k1, .arr 1 [.sl 1 q2 k2 g2 0 u.length], g1), (q2, k2, .arr 1 (List.map (AV.int .i64) u), g2)]) rg [])
  refine qZ (qZ (rZ (mvZ (.int .i64 blockSize) rfl (mvZ (.int .i64 n) rfl (wZ rg (o_lss rfl rfl (nZ ?_)))))))
  refine Vc.cond' rfl (fun hb1 => ?_) (fun hb1 => ?_)
  · replace h := h.1 hb1
    refine Vc.skip' ?_
    refine Vc.blk ?_
    refine qZ (rZ (mvZ (.int .i64 blockSize) rfl (wZ rg (o_mulG rfl rfl h.1 ?_))))
    replace h := h.2
    refine asZ (.int .i64 0) rfl (asZ (.int .i64 (2 * blockSize)) rfl (nZ (qZ ?_)))
    refine Vc.blk ?_
    obtain ⟨I, μ, h0, hI⟩ := h
    refine Vc.loop' (σ := (Unit)) (fun y => I y) (fun y => μ y) (fun y => envOf [(0, .sl 1 q0 k0 g0 0 data1.length), (1, .int .i64 n), (2, .fn (.func 89) [] [.ptr q1 k1 g1 0 0]), (6, .int .i64 blockSize), (7, .int .i64 0), (8, .int .i64 (2 * blockSize))]) (fun y => stL (stX S [(q0, k0, .arr 1 (List.map (AV.int .i64) data3), g0), (q1, k1, .arr 1 [.sl 1 q2 k2 g2 0 u.length], g1), (q2, k2, .arr 1 (List.map (AV.int .i64) u), g2)]) rg []) () (canon (fc vr (fc vr (fc vr (fc vr (fc vr (fc vr (fn))))))) (sn)) h0 (fun _ h => ?_)
    replace h := hI () h
    show Vc _ _ _ _ (envOf [(0, .sl 1 q0 k0 g0 0 data1.length), (1, .int .i64 n), (2, .fn (.func 89) [] [.ptr q1 k1 g1 0 0]), (6, .int .i64 blockSize), (7, .int .i64 0), (8, .int .i64 (2 * blockSize))]) (stL (stX S [(q0, k0, .arr 1 (List.map (AV.int .i64) data3), g0), (q1, k1, .arr 1 [.sl 1 q2 k2 g2 0 u.length], g1), (q2, k2, .arr 1 (List.map (AV.int .i64) u), g2)]) rg [])
    refine qZ (qZ (rZ (mvZ (.int .i64 (2 * blockSize)) rfl (mvZ (.int .i64 n) rfl (wZ rg (o_leq rfl rfl (nZ ?_)))))))
    refine Vc.cond' rfl (fun hb2 => ?_) (fun hb2 => ?_)
    · replace h := h.1 hb2
      refine Vc.skip' ?_
      refine Vc.blk ?_
      refine qZ (rZ (mvZ (.sl 1 q0 k0 g0 0 data1.length) rfl (mvZ (.int .i64 0) rfl (mvZ (.int .i64 0) rfl (mvZ (.int .i64 blockSize) rfl (wZ rg (o_addG rfl rfl h.1 ?_)))))))
      replace h := h.2
      refine mvZ (.int .i64 (2 * blockSize)) rfl (mvZ (.fn (.func 89) [] [.ptr q1 k1 g1 0 0]) rfl ?_)
      exact h.elim
    replace h := h.2 hb2
    refine Vc.exit' (exB_self ?_)
    refine qZ (qZ (rZ (mvZ (.int .i64 0) rfl (mvZ (.int .i64 blockSize) rfl (wZ rg (o_addG rfl rfl h.1 ?_))))))
    replace h := h.2
    refine asZ (.int .i64 (0 + blockSize)) rfl (nZ (qZ (rZ (mvZ (.int .i64 (0 + blockSize)) rfl (mvZ (.int .i64 n) rfl (wZ rg (o_lss rfl rfl (nZ ?_))))))))
    refine Vc.cond' rfl (fun hb3 => ?_) (fun hb3 => ?_)
    · replace h := h.1 hb3
      refine rZ ?_
      refine mvZ (.sl 1 q0 k0 g0 0 data1.length) rfl (mvZ (.int .i64 0) rfl (mvZ (.int .i64 (0 + blockSize)) rfl (mvZ (.int .i64 n) rfl (mvZ (.fn (.func 89) [] [.ptr q1 k1 g1 0 0]) rfl ?_))))
      exact h.elim
    replace h := h.2 hb3
    refine Vc.skip' ?_
    refine rZ ?_
    refine mvZ (.int .i64 blockSize) rfl (wZ rg (o_mulG rfl rfl h.1 ?_))
    replace h := h.2
    refine asZ (.int .i64 (blockSize * 2)) rfl (nZ ?_)
    exact ⟨(blockSize * 2), (canon (fc vr (fc vr (fc vr (fc vr (fn))))) (sn)), h⟩
  replace h := h.2 hb1
  refine Vc.exit' (exB_self ?_)
  refine res_nil ?_
  show Gives _ (.tuple []) _
  exact gives_out (hfr _ rfl) (VW.refl _) (hQ _ h)
theorem slices_SortStableFunc___int_int__e_ctr {x : List Int} {u : List Int} {q0 k0 g0 q1 k1 g1 q2 k2 g2 : Nat} (hdk : DK [(q0, k0), (q1, k1), (q2, k2)]) {Q : List Int → Prop} {S : St} {R : AV → St → Prop} (h : slices_SortStableFunc___int_int__e_W x u Q) (hQ : ∀ r1, Q r1 → R (.tuple []) (stX S [(q0, k0, .arr 1 (List.map (AV.int .i64) r1), g0), (q1, k1, .arr 1 [.sl 1 q2 k2 g2 0 u.length], g1), (q2, k2, .arr 1 (List.map (AV.int .i64) u), g2)])) :
    Ctr Try.prog 88 [.sl 1 q0 k0 g0 0 x.length, .fn (.func 89) [] [.ptr q1 k1 g1 0 0]] (stX S [(q0, k0, .arr 1 (List.map (AV.int .i64) x), g0), (q1, k1, .arr 1 [.sl 1 q2 k2 g2 0 u.length], g1), (q2, k2, .arr 1 (List.map (AV.int .i64) u), g2)]) R := by
  unfold slices_SortStableFunc___int_int__e_W at h
  refine enterT Try.func88 rfl Try.ntmps88 Try.results88 (by kernel_rfl) (fun rg hrg => ?_)
  have hdx : DX [(q0, k0, .arr 1 (List.map (AV.int .i64) x), g0), (q1, k1, .arr 1 [.sl 1 q2 k2 g2 0 u.length], g1), (q2, k2, .arr 1 (List.map (AV.int .i64) u), g2)] := hdk
  have hfr := fun X' e => fresh_set (S := S) (rg := rg) (X := [(q0, k0, .arr 1 (List.map (AV.int .i64) x), g0), (q1, k1, .arr 1 [.sl 1 q2 k2 g2 0 u.length], g1), (q2, k2, .arr 1 (List.map (AV.int .i64) u), g2)]) (X' := X') e hrg
  have hne0 := fresh_ne hdx hrg 0 rfl
  have hne1 := fresh_ne hdx hrg 1 rfl
  have hne2 := fresh_ne hdx hrg 2 rfl
  refine rZ ?_
  refine mvZ (.sl 1 q0 k0 g0 0 x.length) rfl (mvZ (.sl 1 q0 k0 g0 0 x.length) rfl (wZ rg (o_lenR td25 rfl (mvZ (.fn (.func 89) [] [.ptr q1 k1 g1 0 0]) rfl ?_))))
  refine wZ rg (o_call (us := [.sl 1 q0 k0 g0 0 x.length, AV.int .i64 (x.length : Int), .fn (.func 89) [] [.ptr q1 k1 g1 0 0]]) rfl (vl' vr (vl' vr (vl' vr (vn)))) (ctrX (sx_c (atX hne0 hdx 0 rfl) (sx_c (atX hne1 hdx 1 rfl) (sx_c (atX hne2 hdx 2 rfl) (sx_n)))) (slices_stableCmpFunc_int__e_ctr (dk_c (ni_c (dk_at 0 1 hdk rfl rfl rfl) (ni_c (dk_at 0 2 hdk rfl rfl rfl) (ni_n))) (dk_c (ni_c (dk_at 1 2 hdk rfl rfl rfl) (ni_n)) (dk_c (ni_n) (dk_n)))) h fun x1 h => ?_)))
  refine Wl.eqS (sy_c (sx_c (atX hne1 hdx 1 rfl) (sx_c (atX hne2 hdx 2 rfl) (sx_n))) (setX hne0 hdx 0 rfl rfl)) ?_
  have hl := h.1
  replace h := h.2
  refine nZ ?_
  refine res_nil ?_
  show Gives _ (.tuple []) _
  exact gives_out (hfr _ rfl) (VW.refl _) (hQ _ h)
set_option maxHeartbeats 4000000 in
theorem sifting_Sift_ctr {d : GDiagram} {Q : GDiagram → Option Int → Prop} {S : St} {R : AV → St → Prop} (h : sifting_Sift_W d Q) (hQ : ∀ r1 r2, Q r1 r2 → R (.tuple [eDiagram r1, eErr 73 r2]) S) :
    Ctr Try.prog 36 [eDiagram d] S R := by
  unfold sifting_Sift_W at h
  refine enterT Try.func36 rfl Try.ntmps36 Try.results36 (by kernel_rfl) (fun rg hrg => ?_)
  refine qZ (rZ (wZ rg (o_box (v := eDiagram d) rfl rfl (kk := 3) rfl (by decide) (fun g1 => (wZ rg (o_alloc zav30 ok30 (kk := 3) rfl (fun g2 => (asZ .niface rfl (nZ (qZ (qZ (rZ (wZ rg (o_loadBA (atL (k := 1) rfl) sz30 (by decide) ag30 rfl rfl (v := eDiagram d) rfl (wZ rg (o_call (us := [eDiagram d]) rfl (vl' vr (vn)) (diagram_Check_ctr h fun err h => (asZ (eErr 73 err) rfl (nZ (qZ (rZ ?_)))))))))))))))))))))
  refine mvZ (eErr 73 err) rfl (wZ rg (o_isnon td32 (E := 73) rfl rfl rfl (nZ ?_)))
  refine Vc.cond' rfl (fun hb => ?_) (fun hb => ?_)
  · replace h := h.1 hb
    refine qZ (rZ (wZ rg (o_build td30 zav30 bok30 szs30 sz30 (ps := []) rfl rfl (v := .agg [.nil, .nil, .int .i64 0]) rfl (mvZ (eErr 73 err) rfl (wZ rg (o_storeB (atL (k := 2) rfl) sz30 (by decide) rfl (w := .agg [.nil, .nil, .int .i64 0]) rfl rfl rfl (v := .agg [.nil, .nil, .int .i64 0]) rfl setL (asZ (eErr 73 err) rfl (nZ ?_))))))))
    refine Vc.ret' ?_
    refine res_cellA (atL (k := 2) rfl) sz30 (by decide) ag30 rfl rfl (v := .agg [.nil, .nil, .int .i64 0]) rfl (res_tmp (v := eErr 73 err) rfl (res_nil ?_))
    show Gives _ (.tuple [.agg [.nil, .nil, .int .i64 0], eErr 73 err]) _
    exact gives_out hrg (VW.tupL (vl' (VW.aggL (vl' (VW.nilL) (vl' (VW.nilL) (vl' vr (vn))))) (vl' vr (vn)))) (hQ _ _ h)
  replace h := h.2 hb
  refine Vc.skip' ?_
  refine qZ (rZ (wZ rg (o_faP td30 rfl rfl (by rw [sz25]; decide) rfl (wZ rg (o_loadB1 (atL (k := 1) rfl) sz25 ag25 rfl rfl (v := eL (AV.int .i64) d.Order) rfl (wZ rg (o_len td25 rfl (wZ rg (o_make td25 bts3 ok3 (enc := AV.int .i64) (z' := 0) zav3 (kk := 1) rfl rfl rfl h.1 (fun g3 => ?_))))))))))
  replace h := h.2
  refine wZ rg (o_alloc zav25 ok25 (kk := 1) rfl (fun g4 => (wZ rg (o_storeB (atL (k := 5) rfl) sz25 (by decide) rfl (w := .sl 1 rg 26 g3 0 (Int.toNat (d.Order.length : Int))) rfl rfl rfl (v := .sl 1 rg 26 g3 0 (Int.toNat (d.Order.length : Int))) rfl setL (nZ (qZ (qZ (rZ (wZ rg (o_faP td30 rfl rfl (by rw [sz28]; decide) rfl ?_))))))))))
  refine wZ rg (o_loadB1 (atL (k := 1) rfl) sz28 ag28 rfl rfl (v := eL eDNode d.Nodes) rfl (wZ rg (o_len td28 rfl (mvZ (.int .i64 0) rfl (nZ ?_)))))
  refine Vc.blk ?_
  obtain ⟨I, μ, h0, hI⟩ := h
  refine Vc.loop' (σ := (Int × (List Int))) (fun y => I y) (fun y => μ y) (fun y => envOf [(1, .ptr rg 1 g1 0 0), (2, .ptr rg 2 g2 0 0), (5, .ptr rg 5 g4 0 0), (28, eL eDNode d.Nodes), (29, .int .i64 (d.Nodes.length : Int)), (30, .int .i64 y.1)]) (fun y => stL S rg [(1, .arr 3 [eDiagram d], g1), (2, .arr 3 [.agg [.nil, .nil, .int .i64 0]], g2), (5, .arr 1 [.sl 1 rg 26 g3 0 y.2.length], g4), (26, .arr 1 (List.map (AV.int .i64) y.2), g3)]) (0, (rep' (d.Order.length : Int) 0)) (EWk.trans (EWk.ow (k := 5) (o' := .arr 1 [.sl 1 rg 26 g3 0 ((rep' (d.Order.length : Int) 0).length)]) rfl (OW.one (VWL.vwc (vl' (VW.slen (by first | rfl | omega | (simp only [go_sem] <;> omega))) (vn))))) (canon (fc vr (fc vr (fc vr (fc vr (fc vr (fc vr (fn))))))) (sc rfl (sc rfl (sc rfl (sc rfl (sn))))))) h0 (fun y h => ?_)
  obtain ⟨x, x1⟩ := y
  replace h := hI (x, x1) h
  show Vc _ _ _ _ (envOf [(1, .ptr rg 1 g1 0 0), (2, .ptr rg 2 g2 0 0), (5, .ptr rg 5 g4 0 0), (28, eL eDNode d.Nodes), (29, .int .i64 (d.Nodes.length : Int)), (30, .int .i64 x)]) (stL S rg [(1, .arr 3 [eDiagram d], g1), (2, .arr 3 [.agg [.nil, .nil, .int .i64 0]], g2), (5, .arr 1 [.sl 1 rg 26 g3 0 x1.length], g4), (26, .arr 1 (List.map (AV.int .i64) x1), g3)])
  refine qZ (rZ (wZ rg (o_lss rfl rfl (nZ (qZ ?_)))))
  refine Vc.cond' rfl (fun hb1 => ?_) (fun hb1 => ?_)
  · replace h := h.1 hb1
    refine Vc.skip' ?_
    refine qZ ?_
    refine Vc.blk ?_
    refine qZ (rZ (wZ rg (o_idxL td28 sz97 (by decide) (fun _ => rfl) rfl rfl h.1 ?_)))
    replace h := h.2
    refine wZ rg (o_loadIA sz97 (by decide) ag97 rfl rfl (v := eDNode (at' d.Nodes x)) rfl (wZ rg (o_alloc zav97 ok97 (kk := 3) rfl (fun g5 => (wZ rg (o_storeB (atL (k := 7) rfl) sz97 (by decide) rfl (w := eDNode (at' d.Nodes x)) rfl rfl rfl (v := eDNode (at' d.Nodes x)) rfl setL (nZ (rZ (wZ rg (o_loadB1 (atL (k := 5) rfl) sz25 ag25 rfl rfl (v := .sl 1 rg 26 g3 0 x1.length) rfl ?_))))))))))
    refine wZ rg (o_faP td97 rfl rfl (by rw [sz3]; decide) rfl (wZ rg (o_loadB1 (atL (k := 7) rfl) sz3 ag3 rfl rfl (v := .int .i64 ((at' d.Nodes x).Var)) rfl (wZ rg (o_idxR0 td25 sz3 (by decide) rfl rfl h.1 ?_)))))
    have hi := h.1
    replace h := h.2
    refine wZ rg (o_loadR1 (atL (k := 26) rfl) sz3 ag3 rfl (lt_of hi (by first | rfl | omega | (simp only [go_sem] <;> omega))) rfl (v := .int .i64 (at' x1 ((at' d.Nodes x).Var))) rfl (wZ rg (o_addG rfl rfl h.1 ?_)))
    replace h := h.2
    refine wZ rg (o_idxR0 td25 sz3 (by decide) rfl rfl h.1 ?_)
    have hi1 := h.1
    replace h := h.2
    refine wZ rg (o_storeR1 (atL (k := 26) rfl) sz3 (by decide) (x' := ((at' x1 ((at' d.Nodes x).Var)) + 1)) (fun _ => rfl) rfl rfl (lt_of hi1 (by first | rfl | omega | (simp only [go_sem] <;> omega))) rfl rfl setL (nZ (rZ (wZ rg (o_addG rfl rfl h.1 ?_)))))
    replace h := h.2
    refine mvZ (.int .i64 (x + 1)) rfl (nZ ?_)
    exact ⟨((x + 1), (set' x1 ((at' d.Nodes x).Var) ((at' x1 ((at' d.Nodes x).Var)) + 1))), (EWk.trans (EWk.ow (k := 5) (o' := .arr 1 [.sl 1 rg 26 g3 0 ((set' x1 ((at' d.Nodes x).Var) ((at' x1 ((at' d.Nodes x).Var)) + 1)).length)]) rfl (OW.one (VWL.vwc (vl' (VW.slen (by first | rfl | omega | (simp only [go_sem] <;> omega))) (vn))))) (canon (fc vr (fc vr (fc vr (fc vr (fc vr (fc vr (fn))))))) (sc rfl (sc rfl (sc rfl (sc rfl (sn))))))), h⟩
  replace h := h.2 hb1
  refine Vc.exit' (exB_self ?_)
  refine qZ (rZ (wZ rg (o_faP td30 rfl rfl (by rw [sz25]; decide) rfl (wZ rg (o_loadB1 (atL (k := 1) rfl) sz25 ag25 rfl rfl (v := eL (AV.int .i64) d.Order) rfl (wZ rg (o_len td25 rfl (wZ rg (o_call (us := [AV.int .i64 (d.Order.length : Int)]) rfl (vl' vr (vn)) (order_Natural_ctrO rg 46 h fun r r1 g6 h => ?_))))))))))
  refine Wl.eqS setL ?_
  refine mvZ (.tuple [.sl 1 rg 46 g6 0 r.length, eErr 73 r1]) rfl (wZ rg (o_extract (v := .sl 1 rg 46 g6 0 r.length) rfl rfl rfl (wZ rg (o_extract (v := eErr 73 r1) rfl rfl rfl (asZ (.sl 1 rg 46 g6 0 r.length) rfl (asZ (eErr 73 r1) rfl (nZ (qZ (qZ (rZ (mvZ (eErr 73 r1) rfl (wZ rg (o_isnon td32 (E := 73) rfl rfl rfl (nZ ?_))))))))))))))
  refine Vc.cond' rfl (fun hb2 => ?_) (fun hb2 => ?_)
  · replace h := h.1 hb2
    refine qZ (rZ (wZ rg (o_build td30 zav30 bok30 szs30 sz30 (ps := []) rfl rfl (v := .agg [.nil, .nil, .int .i64 0]) rfl (mvZ (eErr 73 r1) rfl (wZ rg (o_storeB (atL (k := 2) rfl) sz30 (by decide) rfl (w := .agg [.nil, .nil, .int .i64 0]) rfl rfl rfl (v := .agg [.nil, .nil, .int .i64 0]) rfl setL (asZ (eErr 73 r1) rfl (nZ ?_))))))))
    refine Vc.ret' ?_
    refine res_cellA (atL (k := 2) rfl) sz30 (by decide) ag30 rfl rfl (v := .agg [.nil, .nil, .int .i64 0]) rfl (res_tmp (v := eErr 73 r1) rfl (res_nil ?_))
    show Gives _ (.tuple [.agg [.nil, .nil, .int .i64 0], eErr 73 r1]) _
    exact gives_out hrg (VW.tupL (vl' (VW.aggL (vl' (VW.nilL) (vl' (VW.nilL) (vl' vr (vn))))) (vl' vr (vn)))) (hQ _ _ h)
  replace h := h.2 hb2
  refine Vc.skip' ?_
  refine qZ (rZ (mvZ (.sl 1 rg 46 g6 0 r.length) rfl (wZ rg (o_func (vs := []) (us := [.ptr rg 5 g4 0 0]) rfl rfl ?_))))
  refine wZ rg (o_call (us := [.sl 1 rg 46 g6 0 r.length, .fn (.func 89) [] [.ptr rg 5 g4 0 0]]) rfl (vl' vr (vl' vr (vn))) (ctrX (sx_c (atL (k := 46) rfl) (sx_c (atL (k := 5) rfl) (sx_c (atL (k := 26) rfl) (sx_n)))) (slices_SortStableFunc___int_int__e_ctr (dk_c (ni_c (ni_o rfl) (ni_c (ni_o rfl) (ni_n))) (dk_c (ni_c (ni_o rfl) (ni_n)) (dk_c (ni_n) (dk_n)))) h fun events h => ?_)))
  refine Wl.eqS (sy_c (sx_c (atL (k := 5) rfl) (sx_c (atL (k := 26) rfl) (sx_n))) setL) ?_
  have hl := h.1
  replace h := h.2
  refine nZ (qZ (qZ (rZ (mvZ (.sl 1 rg 46 g6 0 r.length) rfl (wZ rg (o_lenR td25 rfl (mvZ (.int .i64 0) rfl (nZ ?_))))))))
  refine Vc.blk ?_
  obtain ⟨I, μ, h0, hI⟩ := h
  refine Vc.loop' (σ := ((Int × GDiagram) × (Nat × Nat × Nat))) (fun y => I y.1) (fun y => μ y.1) (fun y => envOf [(1, .ptr rg 1 y.2.1 0 0), (2, .ptr rg 2 y.2.2.1 0 0), (56, .sl 1 rg 46 y.2.2.2 0 r.length), (57, .int .i64 (r.length : Int)), (58, .int .i64 y.1.1)]) (fun y => stL S rg [(1, .arr 3 [eDiagram y.1.2], y.2.1), (2, .arr 3 [.agg [.nil, .nil, .int .i64 0]], y.2.2.1), (46, .arr 1 (List.map (AV.int .i64) events), y.2.2.2)]) ((0, d), (g1, g2, g6)) (canon (fc vr (fc vr (fc vr (fc vr (fc vr (fn)))))) (sc rfl (sc rfl (sc rfl (sn))))) h0 (fun y h => ?_)
  obtain ⟨⟨x2, x3⟩, ⟨g7, g8, g9⟩⟩ := y
  replace h := hI (x2, x3) h
  show Vc _ _ _ _ (envOf [(1, .ptr rg 1 g7 0 0), (2, .ptr rg 2 g8 0 0), (56, .sl 1 rg 46 g9 0 r.length), (57, .int .i64 (r.length : Int)), (58, .int .i64 x2)]) (stL S rg [(1, .arr 3 [eDiagram x3], g7), (2, .arr 3 [.agg [.nil, .nil, .int .i64 0]], g8), (46, .arr 1 (List.map (AV.int .i64) events), g9)])
  refine qZ (rZ (wZ rg (o_lss rfl rfl (nZ (qZ ?_)))))
  refine Vc.cond' rfl (fun hb3 => ?_) (fun hb3 => ?_)
  · replace h := h.1 hb3
    refine Vc.skip' ?_
    refine qZ ?_
    refine Vc.blk ?_
    refine qZ (rZ (wZ rg (o_idxR0 td25 sz3 (by decide) rfl rfl h.1 ?_)))
    have hi2 := h.1
    replace h := h.2
    refine wZ rg (o_loadR1 (atL (k := 46) rfl) sz3 ag3 rfl (lt_of hi2 (by first | rfl | omega | (simp only [go_sem] <;> omega))) rfl (v := .int .i64 (at' events x2)) rfl (asZ (.int .i64 (at' events x2)) rfl (nZ (qZ (rZ (wZ rg (o_loadBA (atL (k := 1) rfl) sz30 (by decide) ag30 rfl rfl (v := eDiagram x3) rfl (wZ rg (o_alloc zav30 ok30 (kk := 3) rfl (fun g10 => ?_))))))))))
    refine wZ rg (o_storeB (atL (k := 12) rfl) sz30 (by decide) rfl (w := eDiagram x3) rfl rfl rfl (v := eDiagram x3) rfl setL (asZ (.bool false) rfl (nZ (qZ (qZ (rZ (wZ rg (o_faP td30 rfl rfl (by rw [sz25]; decide) rfl (wZ rg (o_loadB1 (atL (k := 1) rfl) sz25 ag25 rfl rfl (v := eL (AV.int .i64) x3.Order) rfl (wZ rg (o_len td25 rfl (mvZ (.int .i64 0) rfl (nZ ?_))))))))))))))
    refine Vc.blk ?_
    obtain ⟨I, μ, h0, hI⟩ := h
    refine Vc.loop' (σ := ((Bool × Int × GDiagram) × (Nat × Nat × Nat × Nat))) (fun y => I y.1) (fun y => μ y.1) (fun y => envOf [(1, .ptr rg 1 y.2.1 0 0), (2, .ptr rg 2 y.2.2.1 0 0), (11, .int .i64 (at' events x2)), (12, .ptr rg 12 y.2.2.2.1 0 0), (13, .bool y.1.1), (56, .sl 1 rg 46 y.2.2.2.2 0 r.length), (57, .int .i64 (r.length : Int)), (58, .int .i64 x2), (65, .int .i64 (x3.Order.length : Int)), (66, .int .i64 y.1.2.1)]) (fun y => stL S rg [(1, .arr 3 [eDiagram x3], y.2.1), (2, .arr 3 [.agg [.nil, .nil, .int .i64 0]], y.2.2.1), (12, .arr 3 [eDiagram y.1.2.2], y.2.2.2.1), (46, .arr 1 (List.map (AV.int .i64) events), y.2.2.2.2)]) ((false, 0, x3), (g7, g8, g10, g9)) (canon (fc vr (fc vr (fc vr (fc vr (fc vr (fc vr (fc vr (fc vr (fc vr (fc vr (fn))))))))))) (sc rfl (sc rfl (sc rfl (sc rfl (sn)))))) h0 (fun y h => ?_)
    obtain ⟨⟨found, x4, x5⟩, ⟨g11, g12, g13, g14⟩⟩ := y
    replace h := hI (found, x4, x5) h
    show Vc _ _ _ _ (envOf [(1, .ptr rg 1 g11 0 0), (2, .ptr rg 2 g12 0 0), (11, .int .i64 (at' events x2)), (12, .ptr rg 12 g13 0 0), (13, .bool found), (56, .sl 1 rg 46 g14 0 r.length), (57, .int .i64 (r.length : Int)), (58, .int .i64 x2), (65, .int .i64 (x3.Order.length : Int)), (66, .int .i64 x4)]) (stL S rg [(1, .arr 3 [eDiagram x3], g11), (2, .arr 3 [.agg [.nil, .nil, .int .i64 0]], g12), (12, .arr 3 [eDiagram x5], g13), (46, .arr 1 (List.map (AV.int .i64) events), g14)])
    refine qZ (rZ (wZ rg (o_lss rfl rfl (nZ (qZ ?_)))))
    refine Vc.cond' rfl (fun hb4 => ?_) (fun hb4 => ?_)
    · replace h := h.1 hb4
      refine Vc.skip' ?_
      refine qZ ?_
      refine Vc.blk ?_
      refine qZ (rZ (mvZ (.int .i64 x4) rfl (asZ (.int .i64 x4) rfl (nZ (qZ ?_)))))
      obtain ⟨r2, hc, h⟩ := h
      obtain ⟨r3, r4, hc1, h⟩ := h
      refine Vc.drawn' mixed rg (usOf [(5, pc (eL (AV.int .i64) r2)), (6, pc (.tuple [eDiagram r3, eErr 73 r4]))]) (by kernel_rfl) ?_
      refine dL (E := ([(rg, 1)], [])) rfl rfl (by simp) (cfn) (o_loadBA (atL (k := 1) rfl) sz30 (by decide) ag30 rfl rfl (v := eDiagram x3) rfl (dP rfl rfl (o_faP td30 rfl rfl (by rw [sz25]; decide) rfl (dL (E := ([(rg, 1)], [])) rfl rfl (by simp) (cfa (by simp [apartE]) (cfn)) (o_loadB1 (atL (k := 1) rfl) sz25 ag25 rfl rfl (v := eL (AV.int .i64) x3.Order) rfl ?_)))))
      refine dP rfl rfl (o_move (v := .int .i64 (at' events x2)) rfl (dP rfl rfl (o_move (v := .int .i64 x4) rfl ?_)))
      refine dC (vs := [eL (AV.int .i64) x3.Order, AV.int .i64 (at' events x2), AV.int .i64 x4]) rfl (vl' vr (vl' vr (vl' vr (vn)))) (fun _ => sifting_moved_ctr hc (fun _ hr => ⟨by rw [hr], rfl⟩)) rfl ?_
      refine dC (vs := [eDiagram x3, eL (AV.int .i64) r2]) rfl (vl' vr (vl' vr (vn))) (fun _ => sifting_reorder_ctr hc1 (fun _ _ hr => ⟨by rw [hr.1, hr.2], rfl⟩)) rfl ?_
      refine dP rfl rfl (o_move (v := .tuple [eDiagram r3, eErr 73 r4]) rfl (dP rfl rfl (o_extract (v := eDiagram r3) rfl rfl rfl (dP rfl rfl (o_extract (v := eErr 73 r4) rfl rfl rfl (dL (E := ([], [(rg, 15)])) rfl rfl (by simp) (cfa (by simp [apartE]) (cfa (by simp [apartE]) (cfn))) (o_alloc zav30 ok30 (kk := 3) rfl (fun g15 => ?_))))))))
      refine dL (E := ([], [(rg, 15)])) rfl rfl (by simp) (cfo (by kernel_rfl) (cfo (by kernel_rfl) (cfo (by kernel_rfl) (cfn)))) (o_storeB (atL (k := 15) rfl) sz30 (by decide) rfl (w := eDiagram r3) rfl rfl rfl (v := eDiagram r3) rfl setL (dP rfl rfl (o_assign (v := eErr 73 r4) rfl (dN ?_))))
      obtain ⟨J, h, hJ⟩ := h
      refine Vc.join' (σ := ((Bool) × (Nat × Nat × Nat × Nat × Nat))) (fun y => J y.1) (fun y => envOf [(1, .ptr rg 1 y.2.1 0 0), (2, .ptr rg 2 y.2.2.1 0 0), (11, .int .i64 (at' events x2)), (12, .ptr rg 12 y.2.2.2.1 0 0), (13, .bool found), (15, .ptr rg 15 y.2.2.2.2.1 0 0), (56, .sl 1 rg 46 y.2.2.2.2.2 0 r.length), (57, .int .i64 (r.length : Int)), (58, .int .i64 x2), (65, .int .i64 (x3.Order.length : Int)), (66, .int .i64 x4), (93, .bool y.1)]) (fun y => stL S rg [(1, .arr 3 [eDiagram x3], y.2.1), (2, .arr 3 [.agg [.nil, .nil, .int .i64 0]], y.2.2.1), (12, .arr 3 [eDiagram x5], y.2.2.2.1), (15, .arr 3 [eDiagram r3], y.2.2.2.2.1), (46, .arr 1 (List.map (AV.int .i64) events), y.2.2.2.2.2)]) (fun y h => ?_) ?_
      · obtain ⟨x6, ⟨g16, g17, g18, g19, g20⟩⟩ := y
        replace h := hJ x6 h
        show Vc _ _ _ _ (envOf [(1, .ptr rg 1 g16 0 0), (2, .ptr rg 2 g17 0 0), (11, .int .i64 (at' events x2)), (12, .ptr rg 12 g18 0 0), (13, .bool found), (15, .ptr rg 15 g19 0 0), (56, .sl 1 rg 46 g20 0 r.length), (57, .int .i64 (r.length : Int)), (58, .int .i64 x2), (65, .int .i64 (x3.Order.length : Int)), (66, .int .i64 x4), (93, .bool x6)]) (stL S rg [(1, .arr 3 [eDiagram x3], g16), (2, .arr 3 [.agg [.nil, .nil, .int .i64 0]], g17), (12, .arr 3 [eDiagram x5], g18), (15, .arr 3 [eDiagram r3], g19), (46, .arr 1 (List.map (AV.int .i64) events), g20)])
        refine Vc.cond' rfl (fun hb5 => ?_) (fun hb5 => ?_)
        · replace h := h.1 hb5
          refine rZ ?_
          refine wZ rg (o_loadBA (atL (k := 15) rfl) sz30 (by decide) ag30 rfl rfl (v := eDiagram r3) rfl (wZ rg (o_storeB (atL (k := 12) rfl) sz30 (by decide) rfl (w := eDiagram r3) rfl rfl rfl (v := eDiagram r3) rfl setL (asZ (.bool true) rfl (nZ (rZ (wZ rg (o_addG rfl rfl h.1 ?_))))))))
          replace h := h.2
          refine mvZ (.int .i64 (x4 + 1)) rfl (nZ ?_)
          exact ⟨((true, (x4 + 1), r3), (g16, g17, g18, g20)), (canon (fc vr (fc vr (fc vr (fc vr (fc vr (fc vr (fc vr (fc vr (fc vr (fc vr (fn))))))))))) (sc rfl (sc rfl (sc rfl (sc rfl (sn)))))), h⟩
        replace h := h.2 hb5
        refine Vc.skip' ?_
        refine rZ ?_
        refine wZ rg (o_addG rfl rfl h.1 ?_)
        replace h := h.2
        refine mvZ (.int .i64 (x4 + 1)) rfl (nZ ?_)
        exact ⟨((found, (x4 + 1), x5), (g16, g17, g18, g20)), (canon (fc vr (fc vr (fc vr (fc vr (fc vr (fc vr (fc vr (fc vr (fc vr (fc vr (fn))))))))))) (sc rfl (sc rfl (sc rfl (sc rfl (sn)))))), h⟩
      refine rZ ?_
      refine mvZ (eErr 73 r4) rfl (wZ rg (o_isnil td32 (E := 73) rfl rfl rfl (mvZ (.bool (Option.isNone r4)) rfl ?_)))
      refine Wl.guard rfl rfl (fun hb6 => ?_) (fun hb6 => ?_)
      · replace h := h.1 hb6
        refine mvZ (.bool found) rfl ?_
        refine Wl.guardT rfl rfl hb6 ?_
        refine wZ rg (o_not rfl ?_)
        refine Wl.guardT rfl rfl hb6 ?_
        refine mvZ (.bool (!found)) rfl ?_
        refine Wl.guard rfl rfl (fun hb7 => ?_) (fun hb7 => ?_)
        · replace h := h.2 hb7
          refine wZ rg (o_faP td30 rfl rfl (by rw [sz28]; decide) rfl ?_)
          refine Wl.guardT rfl rfl hb7 ?_
          refine wZ rg (o_loadB1 (atL (k := 15) rfl) sz28 ag28 rfl rfl (v := eL eDNode r3.Nodes) rfl ?_)
          refine Wl.guardT rfl rfl hb7 ?_
          refine wZ rg (o_len td28 rfl ?_)
          refine Wl.guardT rfl rfl hb7 ?_
          refine wZ rg (o_faP td30 rfl rfl (by rw [sz28]; decide) rfl ?_)
          refine Wl.guardT rfl rfl hb7 ?_
          refine wZ rg (o_loadB1 (atL (k := 12) rfl) sz28 ag28 rfl rfl (v := eL eDNode x5.Nodes) rfl ?_)
          refine Wl.guardT rfl rfl hb7 ?_
          refine wZ rg (o_len td28 rfl ?_)
          refine Wl.guardT rfl rfl hb7 ?_
          refine wZ rg (o_lss rfl rfl ?_)
          refine Wl.guardT rfl rfl hb6 ?_
          refine wZ rg (o_pickF rfl hb7 (v := .bool (decide ((r3.Nodes.length : Int) < (x5.Nodes.length : Int)))) rfl (wZ rg (o_pickT rfl hb6 (v := .bool (decide ((r3.Nodes.length : Int) < (x5.Nodes.length : Int)))) rfl (nZ ?_))))
          exact ⟨((decide ((r3.Nodes.length : Int) < (x5.Nodes.length : Int))), (g11, g12, g13, g15, g14)), (canon (fc vr (fc vr (fc vr (fc vr (fc vr (fc vr (fc vr (fc vr (fc vr (fc vr (fc vr (fc vr (fn))))))))))))) (sc rfl (sc rfl (sc rfl (sc rfl (sc rfl (sn))))))), h⟩
        replace h := h.1 hb7
        refine Wl.guardF rfl rfl hb7 rfl ?_
        refine Wl.guardF rfl rfl hb7 rfl ?_
        refine Wl.guardF rfl rfl hb7 rfl ?_
        refine Wl.guardF rfl rfl hb7 rfl ?_
        refine Wl.guardF rfl rfl hb7 rfl ?_
        refine Wl.guardF rfl rfl hb7 rfl ?_
        refine Wl.guardT rfl rfl hb6 ?_
        refine wZ rg (o_pickT rfl hb7 (v := .bool true) rfl (wZ rg (o_pickT rfl hb6 (v := .bool true) rfl (nZ ?_))))
        exact ⟨(true, (g11, g12, g13, g15, g14)), (canon (fc vr (fc vr (fc vr (fc vr (fc vr (fc vr (fc vr (fc vr (fc vr (fc vr (fc vr (fc vr (fn))))))))))))) (sc rfl (sc rfl (sc rfl (sc rfl (sc rfl (sn))))))), h⟩
      replace h := h.2 hb6
      refine Wl.guardF rfl rfl hb6 rfl ?_
      refine Wl.guardF rfl rfl hb6 rfl ?_
      refine Wl.guardU rfl rfl ?_
      refine Wl.guardU rfl rfl ?_
      refine Wl.guardU rfl rfl ?_
      refine Wl.guardU rfl rfl ?_
      refine Wl.guardU rfl rfl ?_
      refine Wl.guardU rfl rfl ?_
      refine Wl.guardU rfl rfl ?_
      refine Wl.guardF rfl rfl hb6 rfl ?_
      refine wZ rg (o_pickF rfl hb6 (v := .bool false) rfl (nZ ?_))
      exact ⟨(false, (g11, g12, g13, g15, g14)), (canon (fc vr (fc vr (fc vr (fc vr (fc vr (fc vr (fc vr (fc vr (fc vr (fc vr (fc vr (fc vr (fn))))))))))))) (sc rfl (sc rfl (sc rfl (sc rfl (sc rfl (sn))))))), h⟩
    replace h := h.2 hb4
    refine Vc.exit' (exB_self ?_)
    refine rZ ?_
    refine wZ rg (o_loadBA (atL (k := 12) rfl) sz30 (by decide) ag30 rfl rfl (v := eDiagram x5) rfl (wZ rg (o_storeB (atL (k := 1) rfl) sz30 (by decide) rfl (w := eDiagram x5) rfl rfl rfl (v := eDiagram x5) rfl setL (nZ (rZ (wZ rg (o_addG rfl rfl h.1 ?_)))))))
    replace h := h.2
    refine mvZ (.int .i64 (x2 + 1)) rfl (nZ ?_)
    exact ⟨(((x2 + 1), x5), (g11, g12, g14)), (canon (fc vr (fc vr (fc vr (fc vr (fc vr (fn)))))) (sc rfl (sc rfl (sc rfl (sn))))), h⟩
  replace h := h.2 hb3
  refine Vc.exit' (exB_self ?_)
  refine qZ (rZ (wZ rg (o_loadBA (atL (k := 1) rfl) sz30 (by decide) ag30 rfl rfl (v := eDiagram x3) rfl (wZ rg (o_faP td30 rfl rfl (by rw [sz25]; decide) rfl (wZ rg (o_loadB1 (atL (k := 1) rfl) sz25 ag25 rfl rfl (v := eL (AV.int .i64) x3.Order) rfl (wZ rg (o_call (us := [eDiagram x3, eL (AV.int .i64) x3.Order]) rfl (vl' vr (vl' vr (vn))) (sifting_reorder_ctr h fun r5 r6 h => ?_))))))))))
  refine wZ rg (o_extract (v := eDiagram r5) rfl rfl rfl (wZ rg (o_extract (v := eErr 73 r6) rfl rfl rfl (wZ rg (o_storeB (atL (k := 2) rfl) sz30 (by decide) rfl (w := eDiagram r5) rfl rfl rfl (v := eDiagram r5) rfl setL (asZ (eErr 73 r6) rfl (nZ ?_)))))))
  refine Vc.ret' ?_
  refine res_cellA (atL (k := 2) rfl) sz30 (by decide) ag30 rfl rfl (v := eDiagram r5) rfl (res_tmp (v := eErr 73 r6) rfl (res_nil ?_))
  show Gives _ (.tuple [eDiagram r5, eErr 73 r6]) _
  exact gives_out hrg (VW.tupL (vl' vr (vl' vr (vn)))) (hQ _ _ h)
theorem sifting_Best_1__e_ctr {o : List Int} {u : GDiagram} {u1 : Bool} {u2 : GDiagram} {q0 k0 g0 q1 k1 g1 q2 k2 g2 : Nat} (hdk : DK [(q1, k1), (q2, k2), (q0, k0)]) {Q : Bool → GDiagram → Prop} {S : St} {R : AV → St → Prop} (h : sifting_Best_1__e_W o u u1 u2 Q) (hQ : ∀ r1 r2, Q r1 r2 → R (.tuple []) (stX S [(q1, k1, .arr 1 [.bool r1], g1), (q2, k2, .arr 3 [eDiagram r2], g2), (q0, k0, .arr 3 [eDiagram u], g0)])) :
    Ctr Try.prog 96 [eL (AV.int .i64) o, .ptr q0 k0 g0 0 0, .ptr q1 k1 g1 0 0, .ptr q2 k2 g2 0 0] (stX S [(q1, k1, .arr 1 [.bool u1], g1), (q2, k2, .arr 3 [eDiagram u2], g2), (q0, k0, .arr 3 [eDiagram u], g0)]) R := by
  unfold sifting_Best_1__e_W at h
  refine enterT Try.func96 rfl Try.ntmps96 Try.results96 (by kernel_rfl) (fun rg hrg => ?_)
  have hdx : DX [(q1, k1, .arr 1 [.bool u1], g1), (q2, k2, .arr 3 [eDiagram u2], g2), (q0, k0, .arr 3 [eDiagram u], g0)] := hdk
  have hfr := fun X' e => fresh_set (S := S) (rg := rg) (X := [(q1, k1, .arr 1 [.bool u1], g1), (q2, k2, .arr 3 [eDiagram u2], g2), (q0, k0, .arr 3 [eDiagram u], g0)]) (X' := X') e hrg
  have hne1 := fresh_ne hdx hrg 0 rfl
  have hne2 := fresh_ne hdx hrg 1 rfl
  have hne0 := fresh_ne hdx hrg 2 rfl
  refine qZ (rZ (wZ rg (o_loadBA (atX hne0 hdx 2 rfl) sz30 (by decide) ag30 rfl rfl (v := eDiagram u) rfl (mvZ (eL (AV.int .i64) o) rfl (wZ rg (o_call (us := [eDiagram u, eL (AV.int .i64) o]) rfl (vl' vr (vl' vr (vn))) (sifting_reorder_ctr h fun r r1 h => (mvZ (.tuple [eDiagram r, eErr 73 r1]) rfl (wZ rg (o_extract (v := eDiagram r) rfl rfl rfl (wZ rg (o_extract (v := eErr 73 r1) rfl rfl rfl ?_))))))))))))
  refine wZ rg (o_alloc zav30 ok30 (kk := 3) rfl (fun g3 => (wZ rg (o_storeB (atL (k := 5) rfl) sz30 (by decide) rfl (w := eDiagram r) rfl rfl rfl (v := eDiagram r) rfl setL (asZ (eErr 73 r1) rfl (nZ ?_))))))
  obtain ⟨J, h, hJ⟩ := h
  refine Vc.join' (σ := ((Bool) × (Nat))) (fun y => J y.1) (fun y => envOf [(2, .ptr q1 k1 g1 0 0), (3, .ptr q2 k2 g2 0 0), (5, .ptr rg 5 y.2 0 0), (27, .bool y.1)]) (fun y => stL (stX S [(q1, k1, .arr 1 [.bool u1], g1), (q2, k2, .arr 3 [eDiagram u2], g2), (q0, k0, .arr 3 [eDiagram u], g0)]) rg [(5, .arr 3 [eDiagram r], y.2)]) (fun y h => ?_) ?_
  · obtain ⟨x, g4⟩ := y
    replace h := hJ x h
    show Vc _ _ _ _ (envOf [(2, .ptr q1 k1 g1 0 0), (3, .ptr q2 k2 g2 0 0), (5, .ptr rg 5 g4 0 0), (27, .bool x)]) (stL (stX S [(q1, k1, .arr 1 [.bool u1], g1), (q2, k2, .arr 3 [eDiagram u2], g2), (q0, k0, .arr 3 [eDiagram u], g0)]) rg [(5, .arr 3 [eDiagram r], g4)])
    refine Vc.cond' rfl (fun hb => ?_) (fun hb => ?_)
    · replace h := h.1 hb
      refine rZ ?_
      refine wZ rg (o_loadBA (atL (k := 5) rfl) sz30 (by decide) ag30 rfl rfl (v := eDiagram r) rfl (wZ rg (o_storeB (atX hne2 hdx 1 rfl) sz30 (by decide) rfl (w := eDiagram r) rfl rfl rfl (v := eDiagram r) rfl (setX hne2 hdx 1 rfl rfl) (wZ rg (o_storeB (atX hne1 hdx 0 rfl) sz4 (by decide) rfl (w := .bool true) rfl rfl rfl (v := .bool true) rfl (setX hne1 hdx 0 rfl rfl) (nZ (res_nil ?_)))))))
      show Gives _ (.tuple []) _
      exact gives_out (hfr _ rfl) (VW.refl _) (hQ _ _ h)
    replace h := h.2 hb
    refine Vc.skip' ?_
    refine res_nil ?_
    show Gives _ (.tuple []) _
    exact gives_out (hfr _ rfl) (VW.refl _) (hQ _ _ h)
  refine rZ ?_
  refine mvZ (eErr 73 r1) rfl (wZ rg (o_isnil td32 (E := 73) rfl rfl rfl (mvZ (.bool (Option.isNone r1)) rfl ?_)))
  refine Wl.guard rfl rfl (fun hb1 => ?_) (fun hb1 => ?_)
  · replace h := h.1 hb1
    refine wZ rg (o_loadB1 (atX hne1 hdx 0 rfl) sz4 ag4 rfl rfl (v := .bool u1) rfl ?_)
    refine Wl.guardT rfl rfl hb1 ?_
    refine wZ rg (o_not rfl ?_)
    refine Wl.guardT rfl rfl hb1 ?_
    refine mvZ (.bool (!u1)) rfl ?_
    refine Wl.guard rfl rfl (fun hb2 => ?_) (fun hb2 => ?_)
    · replace h := h.2 hb2
      refine wZ rg (o_faP td30 rfl rfl (by rw [sz28]; decide) rfl ?_)
      refine Wl.guardT rfl rfl hb2 ?_
      refine wZ rg (o_loadB1 (atL (k := 5) rfl) sz28 ag28 rfl rfl (v := eL eDNode r.Nodes) rfl ?_)
      refine Wl.guardT rfl rfl hb2 ?_
      refine wZ rg (o_len td28 rfl ?_)
      refine Wl.guardT rfl rfl hb2 ?_
      refine wZ rg (o_faP td30 rfl rfl (by rw [sz28]; decide) rfl ?_)
      refine Wl.guardT rfl rfl hb2 ?_
      refine wZ rg (o_loadB1 (atX hne2 hdx 1 rfl) sz28 ag28 rfl rfl (v := eL eDNode u2.Nodes) rfl ?_)
      refine Wl.guardT rfl rfl hb2 ?_
      refine wZ rg (o_len td28 rfl ?_)
      refine Wl.guardT rfl rfl hb2 ?_
      refine wZ rg (o_lss rfl rfl ?_)
      refine Wl.guardT rfl rfl hb1 ?_
      refine wZ rg (o_pickF rfl hb2 (v := .bool (decide ((r.Nodes.length : Int) < (u2.Nodes.length : Int)))) rfl (wZ rg (o_pickT rfl hb1 (v := .bool (decide ((r.Nodes.length : Int) < (u2.Nodes.length : Int)))) rfl (nZ ?_))))
      exact ⟨((decide ((r.Nodes.length : Int) < (u2.Nodes.length : Int))), g3), (canon (fc vr (fc vr (fc vr (fc vr (fn))))) (sc rfl (sn))), h⟩
    replace h := h.1 hb2
    refine Wl.guardF rfl rfl hb2 rfl ?_
    refine Wl.guardF rfl rfl hb2 rfl ?_
    refine Wl.guardF rfl rfl hb2 rfl ?_
    refine Wl.guardF rfl rfl hb2 rfl ?_
    refine Wl.guardF rfl rfl hb2 rfl ?_
    refine Wl.guardF rfl rfl hb2 rfl ?_
    refine Wl.guardT rfl rfl hb1 ?_
    refine wZ rg (o_pickT rfl hb2 (v := .bool true) rfl (wZ rg (o_pickT rfl hb1 (v := .bool true) rfl (nZ ?_))))
    exact ⟨(true, g3), (canon (fc vr (fc vr (fc vr (fc vr (fn))))) (sc rfl (sn))), h⟩
  replace h := h.2 hb1
  refine Wl.guardF rfl rfl hb1 rfl ?_
  refine Wl.guardF rfl rfl hb1 rfl ?_
  refine Wl.guardU rfl rfl ?_
  refine Wl.guardU rfl rfl ?_
  refine Wl.guardU rfl rfl ?_
  refine Wl.guardU rfl rfl ?_
  refine Wl.guardU rfl rfl ?_
  refine Wl.guardU rfl rfl ?_
  refine Wl.guardU rfl rfl ?_
  refine Wl.guardF rfl rfl hb1 rfl ?_
  refine wZ rg (o_pickF rfl hb1 (v := .bool false) rfl (nZ ?_))
  exact ⟨(false, g3), (canon (fc vr (fc vr (fc vr (fc vr (fn))))) (sc rfl (sn))), h⟩
theorem sifting_orders__e_ctr {fu : Nat} : ∀ {part : List Int} {n : Int} {u : GDiagram} {u1 : Bool} {u2 : GDiagram} {q0 k0 g0 q1 k1 g1 q2 k2 g2 : Nat} (_hdk : DK [(q1, k1), (q2, k2), (q0, k0)]) {Q : Bool → GDiagram → Prop} {S : St} {R : AV → St → Prop} (_h : sifting_orders__e_W fu part n u u1 u2 Q) (_hQ : ∀ r1 r2, Q r1 r2 → R (.tuple []) (stX S [(q1, k1, .arr 1 [.bool r1], g1), (q2, k2, .arr 3 [eDiagram r2], g2), (q0, k0, .arr 3 [eDiagram u], g0)])),
    Ctr Try.prog 95 [eL (AV.int .i64) part, AV.int .i64 n, .fn (.func 96) [] [.ptr q0 k0 g0 0 0, .ptr q1 k1 g1 0 0, .ptr q2 k2 g2 0 0]] (stX S [(q1, k1, .arr 1 [.bool u1], g1), (q2, k2, .arr 3 [eDiagram u2], g2), (q0, k0, .arr 3 [eDiagram u], g0)]) R := by
  induction fu with
  | zero =>
    intro part n u u1 u2 q0 k0 g0 q1 k1 g1 q2 k2 g2 hdk Q S R h hQ
    exact False.elim h
  | succ fu ih =>
  intro part n u u1 u2 q0 k0 g0 q1 k1 g1 q2 k2 g2 hdk Q S R h hQ
  rw [sifting_orders__e_W] at h
  refine enterT Try.func95 rfl Try.ntmps95 Try.results95 (by kernel_rfl) (fun rg hrg => ?_)
  have hdx : DX [(q1, k1, .arr 1 [.bool u1], g1), (q2, k2, .arr 3 [eDiagram u2], g2), (q0, k0, .arr 3 [eDiagram u], g0)] := hdk
  have hfr := fun X' e => fresh_set (S := S) (rg := rg) (X := [(q1, k1, .arr 1 [.bool u1], g1), (q2, k2, .arr 3 [eDiagram u2], g2), (q0, k0, .arr 3 [eDiagram u], g0)]) (X' := X') e hrg
  have hne1 := fresh_ne hdx hrg 0 rfl
  have hne2 := fresh_ne hdx hrg 1 rfl
  have hne0 := fresh_ne hdx hrg 2 rfl
  refine qZ (qZ (rZ (mvZ (eL (AV.int .i64) part) rfl (wZ rg (o_len td25 rfl (mvZ (.int .i64 n) rfl (wZ rg (o_eql rfl rfl (nZ ?_)))))))))
  refine Vc.cond' rfl (fun hb => ?_) (fun hb => ?_)
  · replace h := h.1 hb
    refine qZ (rZ (mvZ (.fn (.func 96) [] [.ptr q0 k0 g0 0 0, .ptr q1 k1 g1 0 0, .ptr q2 k2 g2 0 0]) rfl (mvZ (eL (AV.int .i64) part) rfl ?_)))
    refine wZ rg (o_call (us := [eL (AV.int .i64) part, .ptr q0 k0 g0 0 0, .ptr q1 k1 g1 0 0, .ptr q2 k2 g2 0 0]) rfl (vl' vr (vl' vr (vl' vr (vl' vr (vn))))) (ctrX (sx_c (atX hne1 hdx 0 rfl) (sx_c (atX hne2 hdx 1 rfl) (sx_c (atX hne0 hdx 2 rfl) (sx_n)))) (sifting_Best_1__e_ctr (dk_c (ni_c (dk_at 0 1 hdk rfl rfl rfl) (ni_c (dk_at 0 2 hdk rfl rfl rfl) (ni_n))) (dk_c (ni_c (dk_at 1 2 hdk rfl rfl rfl) (ni_n)) (dk_c (ni_n) (dk_n)))) h fun u3 u4 h => ?_)))
    refine Wl.eqS (sy_c (sy_c (sx_c (atX hne0 hdx 2 rfl) (sx_n)) (setX hne2 hdx 1 rfl rfl)) (setX hne1 hdx 0 rfl rfl)) ?_
    refine nZ ?_
    refine Vc.ret' ?_
    refine res_nil ?_
    show Gives _ (.tuple []) _
    exact gives_out (hfr _ rfl) (VW.refl _) (hQ _ _ h)
  replace h := h.2 hb
  refine Vc.skip' ?_
  refine qZ (rZ (mvZ (.int .i64 n) rfl (mvZ (.int .i64 0) rfl (nZ ?_))))
  refine Vc.blk ?_
  obtain ⟨I, μ, h0, hI⟩ := h
  refine Vc.loop' (σ := (Int × Bool × GDiagram)) (fun y => I y) (fun y => μ y) (fun y => envOf [(0, eL (AV.int .i64) part), (1, .int .i64 n), (2, .fn (.func 96) [] [.ptr q0 k0 g0 0 0, .ptr q1 k1 g1 0 0, .ptr q2 k2 g2 0 0]), (14, .int .i64 n), (15, .int .i64 y.1)]) (fun y => stL (stX S [(q1, k1, .arr 1 [.bool y.2.1], g1), (q2, k2, .arr 3 [eDiagram y.2.2], g2), (q0, k0, .arr 3 [eDiagram u], g0)]) rg []) (0, u1, u2) (canon (fc vr (fc vr (fc vr (fc vr (fc vr (fn)))))) (sn)) h0 (fun y h => ?_)
  obtain ⟨x, x1, x2⟩ := y
  replace h := hI (x, x1, x2) h
  show Vc _ _ _ _ (envOf [(0, eL (AV.int .i64) part), (1, .int .i64 n), (2, .fn (.func 96) [] [.ptr q0 k0 g0 0 0, .ptr q1 k1 g1 0 0, .ptr q2 k2 g2 0 0]), (14, .int .i64 n), (15, .int .i64 x)]) (stL (stX S [(q1, k1, .arr 1 [.bool x1], g1), (q2, k2, .arr 3 [eDiagram x2], g2), (q0, k0, .arr 3 [eDiagram u], g0)]) rg [])
  refine qZ (rZ (wZ rg (o_lss rfl rfl (nZ (qZ ?_)))))
  refine Vc.cond' rfl (fun hb1 => ?_) (fun hb1 => ?_)
  · replace h := h.1 hb1
    refine Vc.skip' ?_
    refine qZ ?_
    refine Vc.blk ?_
    refine qZ (rZ (mvZ (.int .i64 x) rfl (asZ (.int .i64 x) rfl (nZ (qZ (rZ (mvZ (eL (AV.int .i64) part) rfl (mvZ (.int .i64 x) rfl (wZ rg (o_call (us := [eL (AV.int .i64) part, AV.int .i64 x]) rfl (vl' vr (vl' vr (vn))) (slices_Contains___int_int_ctr h fun r h => (wZ rg (o_not rfl (nZ ?_))))))))))))))
    refine Vc.cond' rfl (fun hb2 => ?_) (fun hb2 => ?_)
    · replace h := h.1 hb2
      refine rZ ?_
      refine mvZ (eL (AV.int .i64) part) rfl (wZ rg (o_call (us := [eL (AV.int .i64) part]) rfl (vl' vr (vn)) (slices_Clone___int_int_ctrO rg 23 h fun r1 g3 h => ?_)))
      refine Wl.eqS setL ?_
      refine mvZ (.int .i64 x) rfl (wZ rg (o_bslice td25 ok3 zav3 (es := [.int .i64 x]) rfl (kk := 1) rfl rfl rfl rfl rfl rfl (fun g4 => ?_)))
      refine wZ rg (o_appR td25 bts3 ok3 zav3 (es := r1) (xs := [x]) (enc := AV.int .i64) (atL (k := 23) rfl) (by first | rfl | omega | (simp only [go_sem] <;> omega)) (view_rowE (atL (k := 25) rfl) (by first | rfl | omega | (simp only [go_sem] <;> omega))) (kk := 1) rfl rfl (fun _ => rfl) (fun _ => rfl) h.1 rfl (fun _ => setL) (fun g5 => ?_))
      replace h := h.2
      refine mvZ (.int .i64 n) rfl (mvZ (.fn (.func 96) [] [.ptr q0 k0 g0 0 0, .ptr q1 k1 g1 0 0, .ptr q2 k2 g2 0 0]) rfl ?_)
      refine Wl.wk (canon_freeze (k := 23) (xs := List.map (AV.int .i64) (r1 ++ [x])) rfl (es := [(0, eL (AV.int .i64) part), (1, .int .i64 n), (2, .fn (.func 96) [] [.ptr q0 k0 g0 0 0, .ptr q1 k1 g1 0 0, .ptr q2 k2 g2 0 0]), (14, .int .i64 n), (15, .int .i64 x), (26, eL (AV.int .i64) (r1 ++ [x])), (27, .int .i64 n), (28, .fn (.func 96) [] [.ptr q0 k0 g0 0 0, .ptr q1 k1 g1 0 0, .ptr q2 k2 g2 0 0])]) (fc vr (fc vr (fc vr (fc vr (fc vr (fc (frz_full rfl) (fc vr (fc vr (fn))))))))) (m := []) (sn)) ?_
      refine wZ rg (o_call (us := [eL (AV.int .i64) (r1 ++ [x]), AV.int .i64 n, .fn (.func 96) [] [.ptr q0 k0 g0 0 0, .ptr q1 k1 g1 0 0, .ptr q2 k2 g2 0 0]]) rfl (vl' vr (vl' vr (vl' vr (vn)))) (ctrX (sx_c (atX hne1 hdx 0 rfl) (sx_c (atX hne2 hdx 1 rfl) (sx_c (atX hne0 hdx 2 rfl) (sx_n)))) (ih (dk_c (ni_c (dk_at 0 1 hdk rfl rfl rfl) (ni_c (dk_at 0 2 hdk rfl rfl rfl) (ni_n))) (dk_c (ni_c (dk_at 1 2 hdk rfl rfl rfl) (ni_n)) (dk_c (ni_n) (dk_n)))) h fun u5 u6 h => ?_)))
      refine Wl.eqS (sy_c (sy_c (sx_c (atX hne0 hdx 2 rfl) (sx_n)) (setX hne2 hdx 1 rfl rfl)) (setX hne1 hdx 0 rfl rfl)) ?_
      refine nZ (rZ (wZ rg (o_addG rfl rfl h.1 ?_)))
      replace h := h.2
      refine mvZ (.int .i64 (x + 1)) rfl (nZ ?_)
      exact ⟨((x + 1), u5, u6), (canon (fc vr (fc vr (fc vr (fc vr (fc vr (fn)))))) (sn)), h⟩
    replace h := h.2 hb2
    refine Vc.skip' ?_
    refine rZ ?_
    refine wZ rg (o_addG rfl rfl h.1 ?_)
    replace h := h.2
    refine mvZ (.int .i64 (x + 1)) rfl (nZ ?_)
    exact ⟨((x + 1), x1, x2), (canon (fc vr (fc vr (fc vr (fc vr (fc vr (fn)))))) (sn)), h⟩
  replace h := h.2 hb1
  refine Vc.exit' (exB_self ?_)
  refine res_nil ?_
  show Gives _ (.tuple []) _
  exact gives_out (hfr _ rfl) (VW.refl _) (hQ _ _ h)
theorem sifting_Best_ctr {d : GDiagram} {Q : GDiagram → Option Int → Prop} {S : St} {R : AV → St → Prop} (h : sifting_Best_W d Q) (hQ : ∀ r1 r2, Q r1 r2 → R (.tuple [eDiagram r1, eErr 73 r2]) S) :
    Ctr Try.prog 40 [eDiagram d] S R := by
  unfold sifting_Best_W at h
  refine enterT Try.func40 rfl Try.ntmps40 Try.results40 (by kernel_rfl) (fun rg hrg => ?_)
  refine qZ (rZ (wZ rg (o_box (v := eDiagram d) rfl rfl (kk := 3) rfl (by decide) (fun g1 => (wZ rg (o_alloc zav30 ok30 (kk := 3) rfl (fun g2 => (asZ .niface rfl (nZ (qZ (qZ (rZ (wZ rg (o_loadBA (atL (k := 1) rfl) sz30 (by decide) ag30 rfl rfl (v := eDiagram d) rfl (wZ rg (o_call (us := [eDiagram d]) rfl (vl' vr (vn)) (diagram_Check_ctr h fun err h => (asZ (eErr 73 err) rfl (nZ (qZ (rZ ?_)))))))))))))))))))))
  refine mvZ (eErr 73 err) rfl (wZ rg (o_isnon td32 (E := 73) rfl rfl rfl (nZ ?_)))
  refine Vc.cond' rfl (fun hb => ?_) (fun hb => ?_)
  · replace h := h.1 hb
    refine qZ (rZ (wZ rg (o_build td30 zav30 bok30 szs30 sz30 (ps := []) rfl rfl (v := .agg [.nil, .nil, .int .i64 0]) rfl (mvZ (eErr 73 err) rfl (wZ rg (o_storeB (atL (k := 2) rfl) sz30 (by decide) rfl (w := .agg [.nil, .nil, .int .i64 0]) rfl rfl rfl (v := .agg [.nil, .nil, .int .i64 0]) rfl setL (asZ (eErr 73 err) rfl (nZ ?_))))))))
    refine Vc.ret' ?_
    refine res_cellA (atL (k := 2) rfl) sz30 (by decide) ag30 rfl rfl (v := .agg [.nil, .nil, .int .i64 0]) rfl (res_tmp (v := eErr 73 err) rfl (res_nil ?_))
    show Gives _ (.tuple [.agg [.nil, .nil, .int .i64 0], eErr 73 err]) _
    exact gives_out hrg (VW.tupL (vl' (VW.aggL (vl' (VW.nilL) (vl' (VW.nilL) (vl' vr (vn))))) (vl' vr (vn)))) (hQ _ _ h)
  replace h := h.2 hb
  refine Vc.skip' ?_
  refine qZ (qZ (rZ (wZ rg (o_faP td30 rfl rfl (by rw [sz25]; decide) rfl (wZ rg (o_loadB1 (atL (k := 1) rfl) sz25 ag25 rfl rfl (v := eL (AV.int .i64) d.Order) rfl (wZ rg (o_len td25 rfl (wZ rg (o_gtr rfl rfl (nZ ?_)))))))))))
  refine Vc.cond' rfl (fun hb1 => ?_) (fun hb1 => ?_)
  · replace h := h.1 hb1
    refine qZ (rZ (wZ rg (o_build td30 zav30 bok30 szs30 sz30 (ps := []) rfl rfl (v := .agg [.nil, .nil, .int .i64 0]) rfl (wZ rg (o_iface (by rw [td73]; trivial) (v := .int .i64 4) rfl (wZ rg (o_storeB (atL (k := 2) rfl) sz30 (by decide) rfl (w := .agg [.nil, .nil, .int .i64 0]) rfl rfl rfl (v := .agg [.nil, .nil, .int .i64 0]) rfl setL (asZ (.iface 73 (.int .i64 4)) rfl (nZ ?_)))))))))
    refine Vc.ret' ?_
    refine res_cellA (atL (k := 2) rfl) sz30 (by decide) ag30 rfl rfl (v := .agg [.nil, .nil, .int .i64 0]) rfl (res_tmp (v := .iface 73 (.int .i64 4)) rfl (res_nil ?_))
    show Gives _ (.tuple [.agg [.nil, .nil, .int .i64 0], .iface 73 (.int .i64 4)]) _
    exact gives_out hrg (VW.tupL (vl' (VW.aggL (vl' (VW.nilL) (vl' (VW.nilL) (vl' vr (vn))))) (vl' vr (vn)))) (hQ _ _ h)
  replace h := h.2 hb1
  refine Vc.skip' ?_
  refine qZ (rZ (wZ rg (o_alloc zav30 ok30 (kk := 3) rfl (fun g3 => (nZ (qZ (rZ (wZ rg (o_alloc zav4 ok4 (kk := 1) rfl (fun g4 => (wZ rg (o_storeB (atL (k := 6) rfl) sz4 (by decide) rfl (w := .bool false) rfl rfl rfl (v := .bool false) rfl setL (nZ (qZ (rZ (wZ rg (o_faP td30 rfl rfl (by rw [sz25]; decide) rfl ?_)))))))))))))))))
  refine wZ rg (o_loadB1 (atL (k := 1) rfl) sz25 ag25 rfl rfl (v := eL (AV.int .i64) d.Order) rfl (wZ rg (o_len td25 rfl (wZ rg (o_func (vs := []) (us := [.ptr rg 1 g1 0 0, .ptr rg 6 g4 0 0, .ptr rg 5 g3 0 0]) rfl rfl ?_)))))
  refine Wl.wk (EWk.ow (k := 5) (o' := .arr 3 [.agg [eL (AV.int .i64) [], eL eDNode [], .int .i64 0]]) rfl (OW.one (VWL.vwc (vl' (VW.nilL) (vl' (VW.nilL) (vl' vr (vn))))))) ?_
  obtain ⟨_, h⟩ := h
  refine wZ rg (o_call (us := [eL (AV.int .i64) [], AV.int .i64 (d.Order.length : Int), .fn (.func 96) [] [.ptr rg 1 g1 0 0, .ptr rg 6 g4 0 0, .ptr rg 5 g3 0 0]]) rfl (vl' (VW.nilL) (vl' vr (vl' vr (vn)))) (ctrX (sx_c (atL (k := 6) rfl) (sx_c (atL (k := 5) rfl) (sx_c (atL (k := 1) rfl) (sx_n)))) (sifting_orders__e_ctr (dk_c (ni_c (ni_o rfl) (ni_c (ni_o rfl) (ni_n))) (dk_c (ni_c (ni_o rfl) (ni_n)) (dk_c (ni_n) (dk_n)))) h fun found best h => ?_)))
  refine Wl.eqS (sy_c (sy_c (sx_c (atL (k := 1) rfl) (sx_n)) setL) setL) ?_
  refine nZ (qZ (rZ (wZ rg (o_loadBA (atL (k := 5) rfl) sz30 (by decide) ag30 rfl rfl (v := eDiagram best) rfl (wZ rg (o_storeB (atL (k := 2) rfl) sz30 (by decide) rfl (w := eDiagram best) rfl rfl rfl (v := eDiagram best) rfl setL (asZ .niface rfl (nZ ?_))))))))
  refine Vc.ret' ?_
  refine res_cellA (atL (k := 2) rfl) sz30 (by decide) ag30 rfl rfl (v := eDiagram best) rfl (res_tmp (v := .niface) rfl (res_nil ?_))
  show Gives _ (.tuple [eDiagram best, .niface]) _
  exact gives_out hrg (VW.tupL (vl' vr (vl' vr (vn)))) (hQ _ _ h)
end Go.Proofs.Ytiamkdpljeemkaa
/- Walks of functions. Conditions: none. -/
namespace Go.Proofs.Ytiamkdpljeemkaa
open Go.Gg
set_option maxRecDepth 100000
theorem ref08_Of_ctr {f : GFormula} {values : List Bool} {failed : Int} {arg : Int} {Q : Bool → Prop} {S : St} {R : AV → St → Prop} (h : ref08_Of_W f values failed arg Q) (hQ : ∀ r1, Q r1 → R (AV.bool r1) S) :
    Ctr Try.prog 171 [eFormula f, eL AV.bool values, AV.int .i64 failed, AV.int .i64 arg] S R := by
  unfold ref08_Of_W at h
  refine enterT Try.func171 rfl Try.ntmps171 Try.results171 (by kernel_rfl) (fun rg hrg => ?_)
  refine qZ (rZ (wZ rg (o_box (v := eFormula f) rfl rfl (kk := 3) rfl (by decide) (fun g1 => (asZ (.bool false) rfl (nZ (qZ (qZ (rZ (mvZ (.int .i64 arg) rfl (wZ rg (o_faP td24 rfl rfl (by rw [sz3]; decide) rfl (wZ rg (o_loadB1 (atL (k := 4) rfl) sz3 ag3 rfl rfl (v := .int .i64 f.Vars) rfl (wZ rg (o_lss rfl rfl (nZ ?_)))))))))))))))))
  refine Vc.cond' rfl (fun hb => ?_) (fun hb => ?_)
  · replace h := h.1 hb
    refine qZ (rZ (mvZ (.int .i64 failed) rfl (mvZ (.int .i64 arg) rfl (wZ rg (o_shr rfl rfl h.1 ?_)))))
    replace h := h.2
    refine wZ rg (o_and rfl rfl (wZ rg (o_eql rfl rfl (asZ (.bool ((bits .and .i64 (failed / 2 ^ (Int.toNat arg)) 1) == 1)) rfl (nZ ?_)))))
    refine Vc.ret' ?_
    refine res_tmp (v := .bool ((bits .and .i64 (failed / 2 ^ (Int.toNat arg)) 1) == 1)) rfl (res_nil ?_)
    show Gives _ (.bool ((bits .and .i64 (failed / 2 ^ (Int.toNat arg)) 1) == 1)) _
    exact gives_out hrg (VW.refl _) (hQ _ h)
  replace h := h.2 hb
  refine Vc.skip' ?_
  refine qZ (rZ (mvZ (eL AV.bool values) rfl (mvZ (.int .i64 arg) rfl (wZ rg (o_faP td24 rfl rfl (by rw [sz3]; decide) rfl (wZ rg (o_loadB1 (atL (k := 4) rfl) sz3 ag3 rfl rfl (v := .int .i64 f.Vars) rfl (wZ rg (o_subG rfl rfl h.1 ?_)))))))))
  replace h := h.2
  refine wZ rg (o_idxL td110 sz4 (by decide) (fun _ => rfl) rfl rfl h.1 ?_)
  replace h := h.2
  refine wZ rg (o_loadI1 sz4 ag4 rfl rfl (v := .bool (at' values (arg - f.Vars))) rfl (asZ (.bool (at' values (arg - f.Vars))) rfl (nZ ?_)))
  refine Vc.ret' ?_
  refine res_tmp (v := .bool (at' values (arg - f.Vars))) rfl (res_nil ?_)
  show Gives _ (.bool (at' values (arg - f.Vars))) _
  exact gives_out hrg (VW.refl _) (hQ _ h)
theorem ref08_Of__r1_ctr {f : GFormula} {values : List Bool} {valueso : Nat} {valuesl : Nat} {failed : Int} {arg : Int} {q0 k0 g0 : Nat} {Q : List Bool → Bool → Prop} {S : St} {R : AV → St → Prop} (h : ref08_Of__r1_W f values valueso valuesl failed arg Q) (hQ : ∀ r1 r2, Q r1 r2 → R (AV.bool r2) (stX S [(q0, k0, .arr 1 (List.map AV.bool r1), g0)])) :
    Ctr Try.prog 171 [eFormula f, .sl 1 q0 k0 g0 valueso valuesl, AV.int .i64 failed, AV.int .i64 arg] (stX S [(q0, k0, .arr 1 (List.map AV.bool values), g0)]) R := by
  unfold ref08_Of__r1_W at h
  refine enterT Try.func171 rfl Try.ntmps171 Try.results171 (by kernel_rfl) (fun rg hrg => ?_)
  have hdx : DX [(q0, k0, .arr 1 (List.map AV.bool values), g0)] := dx1
  have hfr := fun X' e => fresh_set (S := S) (rg := rg) (X := [(q0, k0, .arr 1 (List.map AV.bool values), g0)]) (X' := X') e hrg
  have hne0 := fresh_ne hdx hrg 0 rfl
  refine qZ (rZ (wZ rg (o_box (v := eFormula f) rfl rfl (kk := 3) rfl (by decide) (fun g1 => (asZ (.bool false) rfl (nZ (qZ (qZ (rZ (mvZ (.int .i64 arg) rfl (wZ rg (o_faP td24 rfl rfl (by rw [sz3]; decide) rfl (wZ rg (o_loadB1 (atL (k := 4) rfl) sz3 ag3 rfl rfl (v := .int .i64 f.Vars) rfl (wZ rg (o_lss rfl rfl (nZ ?_)))))))))))))))))
  refine Vc.cond' rfl (fun hb => ?_) (fun hb => ?_)
  · replace h := h.1 hb
    refine qZ (rZ (mvZ (.int .i64 failed) rfl (mvZ (.int .i64 arg) rfl (wZ rg (o_shr rfl rfl h.1 ?_)))))
    replace h := h.2
    refine wZ rg (o_and rfl rfl (wZ rg (o_eql rfl rfl (asZ (.bool ((bits .and .i64 (failed / 2 ^ (Int.toNat arg)) 1) == 1)) rfl (nZ ?_)))))
    refine Vc.ret' ?_
    refine res_tmp (v := .bool ((bits .and .i64 (failed / 2 ^ (Int.toNat arg)) 1) == 1)) rfl (res_nil ?_)
    show Gives _ (.bool ((bits .and .i64 (failed / 2 ^ (Int.toNat arg)) 1) == 1)) _
    exact gives_out (hfr _ rfl) (VW.refl _) (hQ _ _ h)
  replace h := h.2 hb
  refine Vc.skip' ?_
  refine qZ (rZ (mvZ (.sl 1 q0 k0 g0 valueso valuesl) rfl (mvZ (.int .i64 arg) rfl (wZ rg (o_faP td24 rfl rfl (by rw [sz3]; decide) rfl (wZ rg (o_loadB1 (atL (k := 4) rfl) sz3 ag3 rfl rfl (v := .int .i64 f.Vars) rfl (wZ rg (o_subG rfl rfl h.1 ?_)))))))))
  replace h := h.2
  refine wZ rg (o_idxRO td110 sz4 (by decide) rfl rfl h.1 ?_)
  have hi := h.1
  replace h := h.2
  refine wZ rg (o_loadR1 (atX hne0 hdx 0 rfl) sz4 ag4 rfl (h.1) rfl (v := .bool (at' values ((valueso : Int) + (arg - f.Vars)))) rfl ?_)
  replace h := h.2
  refine asZ (.bool (at' values ((valueso : Int) + (arg - f.Vars)))) rfl (nZ ?_)
  refine Vc.ret' ?_
  refine res_tmp (v := .bool (at' values ((valueso : Int) + (arg - f.Vars)))) rfl (res_nil ?_)
  show Gives _ (.bool (at' values ((valueso : Int) + (arg - f.Vars)))) _
  exact gives_out (hfr _ rfl) (VW.refl _) (hQ _ _ h)
theorem ref08_Values_ctr {f : GFormula} {failed : Int} {Q : List Bool → Prop} {S : St} {R : AV → St → Prop} (h : ref08_Values_W f failed Q) (hQ : ∀ r1, Q r1 → R (eL AV.bool r1) S) :
    Ctr Try.prog 172 [eFormula f, AV.int .i64 failed] S R := by
  unfold ref08_Values_W at h
  refine enterT Try.func172 rfl Try.ntmps172 Try.results172 (by kernel_rfl) (fun rg hrg => ?_)
  refine qZ (rZ (wZ rg (o_box (v := eFormula f) rfl rfl (kk := 3) rfl (by decide) (fun g1 => (asZ .nil rfl (nZ (qZ (rZ (wZ rg (o_faP td24 rfl rfl (by rw [sz22]; decide) rfl (wZ rg (o_loadB1 (atL (k := 2) rfl) sz22 ag22 rfl rfl (v := eL eNode f.Nodes) rfl (wZ rg (o_len td22 rfl (wZ rg (o_make td110 bts4 ok4 (enc := AV.bool) (z' := false) zav4 (kk := 1) rfl rfl rfl h.1 (fun g2 => ?_)))))))))))))))))
  replace h := h.2
  refine asZ (.sl 1 rg 14 g2 0 (Int.toNat (f.Nodes.length : Int))) rfl (nZ (qZ (qZ (rZ (wZ rg (o_faP td24 rfl rfl (by rw [sz22]; decide) rfl (wZ rg (o_loadB1 (atL (k := 2) rfl) sz22 ag22 rfl rfl (v := eL eNode f.Nodes) rfl (wZ rg (o_len td22 rfl (mvZ (.int .i64 0) rfl (nZ ?_))))))))))))
  refine Vc.blk ?_
  obtain ⟨I, μ, h0, hI⟩ := h
  refine Vc.loop' (σ := (Int × (List Bool))) (fun y => I y) (fun y => μ y) (fun y => envOf [(1, .int .i64 failed), (2, .ptr rg 2 g1 0 0), (5, .sl 1 rg 14 g2 0 y.2.length), (16, eL eNode f.Nodes), (17, .int .i64 (f.Nodes.length : Int)), (18, .int .i64 y.1)]) (fun y => stL S rg [(2, .arr 3 [eFormula f], g1), (14, .arr 1 (List.map AV.bool y.2), g2)]) (0, (rep' (f.Nodes.length : Int) false)) (canon (fc vr (fc vr (fc (VW.slen (by first | rfl | omega | (simp only [go_sem] <;> omega))) (fc vr (fc vr (fc vr (fn))))))) (sc rfl (sc rfl (sn)))) h0 (fun y h => ?_)
  obtain ⟨x, values⟩ := y
  replace h := hI (x, values) h
  show Vc _ _ _ _ (envOf [(1, .int .i64 failed), (2, .ptr rg 2 g1 0 0), (5, .sl 1 rg 14 g2 0 values.length), (16, eL eNode f.Nodes), (17, .int .i64 (f.Nodes.length : Int)), (18, .int .i64 x)]) (stL S rg [(2, .arr 3 [eFormula f], g1), (14, .arr 1 (List.map AV.bool values), g2)])
  refine qZ (rZ (wZ rg (o_lss rfl rfl (nZ (qZ ?_)))))
  refine Vc.cond' rfl (fun hb => ?_) (fun hb => ?_)
  · replace h := h.1 hb
    refine Vc.skip' ?_
    refine qZ ?_
    refine Vc.blk ?_
    refine qZ (rZ (mvZ (.int .i64 x) rfl (wZ rg (o_idxL td22 sz105 (by decide) (fun _ => rfl) rfl rfl h.1 ?_))))
    replace h := h.2
    refine wZ rg (o_loadIA sz105 (by decide) ag105 rfl rfl (v := eNode (at' f.Nodes x)) rfl (wZ rg (o_alloc zav105 ok105 (kk := 3) rfl (fun g3 => (asZ (.int .i64 x) rfl (wZ rg (o_storeB (atL (k := 7) rfl) sz105 (by decide) rfl (w := eNode (at' f.Nodes x)) rfl rfl rfl (v := eNode (at' f.Nodes x)) rfl setL (nZ (qZ (rZ (asZ (.int .i64 0) rfl (nZ (qZ (qZ (rZ ?_)))))))))))))))
    refine wZ rg (o_faP td105 rfl rfl (by rw [sz25]; decide) rfl (wZ rg (o_loadB1 (atL (k := 7) rfl) sz25 ag25 rfl rfl (v := eL (AV.int .i64) ((at' f.Nodes x).Args)) rfl (wZ rg (o_len td25 rfl (mvZ (.int .i64 0) rfl (nZ ?_)))))))
    refine Vc.blk ?_
    obtain ⟨I, μ, h0, hI⟩ := h
    refine Vc.loop' (σ := (Int × Int × (List Bool))) (fun y => I y) (fun y => μ y) (fun y => envOf [(1, .int .i64 failed), (2, .ptr rg 2 g1 0 0), (5, .sl 1 rg 14 g2 0 y.2.2.length), (6, .int .i64 x), (7, .ptr rg 7 g3 0 0), (8, .int .i64 y.1), (16, eL eNode f.Nodes), (17, .int .i64 (f.Nodes.length : Int)), (18, .int .i64 x), (24, eL (AV.int .i64) ((at' f.Nodes x).Args)), (25, .int .i64 (((at' f.Nodes x).Args).length : Int)), (26, .int .i64 y.2.1)]) (fun y => stL S rg [(2, .arr 3 [eFormula f], g1), (7, .arr 3 [eNode (at' f.Nodes x)], g3), (14, .arr 1 (List.map AV.bool y.2.2), g2)]) (0, 0, values) (canon (fc vr (fc vr (fc vr (fc vr (fc vr (fc vr (fc vr (fc vr (fc vr (fc vr (fc vr (fc vr (fn))))))))))))) (sc rfl (sc rfl (sc rfl (sn))))) h0 (fun y h => ?_)
    obtain ⟨n, x1, values1⟩ := y
    replace h := hI (n, x1, values1) h
    show Vc _ _ _ _ (envOf [(1, .int .i64 failed), (2, .ptr rg 2 g1 0 0), (5, .sl 1 rg 14 g2 0 values1.length), (6, .int .i64 x), (7, .ptr rg 7 g3 0 0), (8, .int .i64 n), (16, eL eNode f.Nodes), (17, .int .i64 (f.Nodes.length : Int)), (18, .int .i64 x), (24, eL (AV.int .i64) ((at' f.Nodes x).Args)), (25, .int .i64 (((at' f.Nodes x).Args).length : Int)), (26, .int .i64 x1)]) (stL S rg [(2, .arr 3 [eFormula f], g1), (7, .arr 3 [eNode (at' f.Nodes x)], g3), (14, .arr 1 (List.map AV.bool values1), g2)])
    refine qZ (rZ (wZ rg (o_lss rfl rfl (nZ (qZ ?_)))))
    refine Vc.cond' rfl (fun hb1 => ?_) (fun hb1 => ?_)
    · replace h := h.1 hb1
      refine Vc.skip' ?_
      refine qZ ?_
      refine Vc.blk ?_
      refine qZ (rZ (wZ rg (o_idxL td25 sz3 (by decide) (fun _ => rfl) rfl rfl h.1 ?_)))
      replace h := h.2
      refine wZ rg (o_loadI1 sz3 ag3 rfl rfl (v := .int .i64 (at' ((at' f.Nodes x).Args) x1)) rfl (asZ (.int .i64 (at' ((at' f.Nodes x).Args) x1)) rfl (nZ (qZ (rZ (wZ rg (o_loadBA (atL (k := 2) rfl) sz24 (by decide) ag24 rfl rfl (v := eFormula f) rfl (mvZ (.sl 1 rg 14 g2 0 values1.length) rfl (mvZ (.int .i64 failed) rfl (mvZ (.int .i64 (at' ((at' f.Nodes x).Args) x1)) rfl ?_))))))))))
      refine wZ rg (o_call (us := [eFormula f, .sl 1 rg 14 g2 0 values1.length, AV.int .i64 failed, AV.int .i64 (at' ((at' f.Nodes x).Args) x1)]) rfl (vl' vr (vl' vr (vl' vr (vl' vr (vn))))) (ctrX (stX_same1 (atL (k := 14) rfl)) (ref08_Of__r1_ctr h fun values2 r h => ?_)))
      refine Wl.eqS setL ?_
      have hl := h.1
      replace h := h.2
      refine nZ ?_
      refine Vc.cond' rfl (fun hb2 => ?_) (fun hb2 => ?_)
      · replace h := h.1 hb2
        refine rZ ?_
        refine mvZ (.int .i64 n) rfl (wZ rg (o_addG rfl rfl h.1 ?_))
        replace h := h.2
        refine asZ (.int .i64 (n + 1)) rfl (nZ (rZ (wZ rg (o_addG rfl rfl h.1 ?_))))
        replace h := h.2
        refine mvZ (.int .i64 (x1 + 1)) rfl (nZ ?_)
        exact ⟨((n + 1), (x1 + 1), values2), (canon (fc vr (fc vr (fc (VW.slen (by first | rfl | omega | (simp only [go_sem] <;> omega))) (fc vr (fc vr (fc vr (fc vr (fc vr (fc vr (fc vr (fc vr (fc vr (fn))))))))))))) (sc rfl (sc rfl (sc rfl (sn))))), h⟩
      replace h := h.2 hb2
      refine Vc.skip' ?_
      refine rZ ?_
      refine wZ rg (o_addG rfl rfl h.1 ?_)
      replace h := h.2
      refine mvZ (.int .i64 (x1 + 1)) rfl (nZ ?_)
      exact ⟨(n, (x1 + 1), values2), (canon (fc vr (fc vr (fc (VW.slen (by first | rfl | omega | (simp only [go_sem] <;> omega))) (fc vr (fc vr (fc vr (fc vr (fc vr (fc vr (fc vr (fc vr (fc vr (fn))))))))))))) (sc rfl (sc rfl (sc rfl (sn))))), h⟩
    replace h := h.2 hb1
    refine Vc.exit' (exB_self ?_)
    refine qZ (rZ (wZ rg (o_faP td105 rfl rfl (by rw [sz3]; decide) rfl (wZ rg (o_loadB1 (atL (k := 7) rfl) sz3 ag3 rfl rfl (v := .int .i64 ((at' f.Nodes x).Kind)) rfl (nZ ?_))))))
    refine Vc.blk ?_
    refine qZ (rZ (wZ rg (o_eql rfl rfl (asZ (.bool ((at' f.Nodes x).Kind == 0)) rfl (nZ ?_)))))
    refine Vc.cond' rfl (fun hb3 => ?_) (fun hb3 => ?_)
    · replace h := h.1 hb3
      refine rZ ?_
      refine mvZ (.sl 1 rg 14 g2 0 values1.length) rfl (mvZ (.int .i64 x) rfl (wZ rg (o_faP td105 rfl rfl (by rw [sz3]; decide) rfl (wZ rg (o_loadB1 (atL (k := 7) rfl) sz3 ag3 rfl rfl (v := .int .i64 ((at' f.Nodes x).K)) rfl (wZ rg (o_eql rfl rfl (wZ rg (o_idxR0 td110 sz4 (by decide) rfl rfl h.1 ?_)))))))))
      have hi := h.1
      replace h := h.2
      refine wZ rg (o_storeR1 (atL (k := 14) rfl) sz4 (by decide) (x' := ((at' f.Nodes x).K == 1)) (fun _ => rfl) rfl rfl (lt_of hi (by first | rfl | omega | (simp only [go_sem] <;> omega))) rfl rfl setL (nZ (rZ (wZ rg (o_addG rfl rfl h.1 ?_)))))
      replace h := h.2
      refine mvZ (.int .i64 (x + 1)) rfl (nZ ?_)
      exact ⟨((x + 1), (set' values1 x ((at' f.Nodes x).K == 1))), (canon (fc vr (fc vr (fc (VW.slen (by first | rfl | omega | (simp only [go_sem] <;> omega))) (fc vr (fc vr (fc vr (fn))))))) (sc rfl (sc rfl (sn)))), h⟩
    replace h := h.2 hb3
    refine qZ (rZ (wZ rg (o_eql rfl rfl (asZ (.bool ((at' f.Nodes x).Kind == 1)) rfl (nZ ?_)))))
    refine Vc.cond' rfl (fun hb4 => ?_) (fun hb4 => ?_)
    · replace h := h.1 hb4
      refine rZ ?_
      refine mvZ (.sl 1 rg 14 g2 0 values1.length) rfl (mvZ (.int .i64 x) rfl (mvZ (.int .i64 n) rfl (wZ rg (o_eql rfl rfl (wZ rg (o_idxR0 td110 sz4 (by decide) rfl rfl h.1 ?_))))))
      have hi1 := h.1
      replace h := h.2
      refine wZ rg (o_storeR1 (atL (k := 14) rfl) sz4 (by decide) (x' := (n == 0)) (fun _ => rfl) rfl rfl (lt_of hi1 (by first | rfl | omega | (simp only [go_sem] <;> omega))) rfl rfl setL (nZ (rZ (wZ rg (o_addG rfl rfl h.1 ?_)))))
      replace h := h.2
      refine mvZ (.int .i64 (x + 1)) rfl (nZ ?_)
      exact ⟨((x + 1), (set' values1 x (n == 0))), (canon (fc vr (fc vr (fc (VW.slen (by first | rfl | omega | (simp only [go_sem] <;> omega))) (fc vr (fc vr (fc vr (fn))))))) (sc rfl (sc rfl (sn)))), h⟩
    replace h := h.2 hb4
    refine qZ (rZ (wZ rg (o_eql rfl rfl (asZ (.bool ((at' f.Nodes x).Kind == 2)) rfl (nZ ?_)))))
    refine Vc.cond' rfl (fun hb5 => ?_) (fun hb5 => ?_)
    · replace h := h.1 hb5
      refine rZ ?_
      refine mvZ (.sl 1 rg 14 g2 0 values1.length) rfl (mvZ (.int .i64 x) rfl (mvZ (.int .i64 n) rfl (wZ rg (o_faP td105 rfl rfl (by rw [sz25]; decide) rfl (wZ rg (o_loadB1 (atL (k := 7) rfl) sz25 ag25 rfl rfl (v := eL (AV.int .i64) ((at' f.Nodes x).Args)) rfl (wZ rg (o_len td25 rfl (wZ rg (o_eql rfl rfl (wZ rg (o_idxR0 td110 sz4 (by decide) rfl rfl h.1 ?_))))))))))))
      have hi2 := h.1
      replace h := h.2
      refine wZ rg (o_storeR1 (atL (k := 14) rfl) sz4 (by decide) (x' := (n == (((at' f.Nodes x).Args).length : Int))) (fun _ => rfl) rfl rfl (lt_of hi2 (by first | rfl | omega | (simp only [go_sem] <;> omega))) rfl rfl setL (nZ (rZ (wZ rg (o_addG rfl rfl h.1 ?_)))))
      replace h := h.2
      refine mvZ (.int .i64 (x + 1)) rfl (nZ ?_)
      exact ⟨((x + 1), (set' values1 x (n == (((at' f.Nodes x).Args).length : Int)))), (canon (fc vr (fc vr (fc (VW.slen (by first | rfl | omega | (simp only [go_sem] <;> omega))) (fc vr (fc vr (fc vr (fn))))))) (sc rfl (sc rfl (sn)))), h⟩
    replace h := h.2 hb5
    refine qZ (rZ (wZ rg (o_eql rfl rfl (asZ (.bool ((at' f.Nodes x).Kind == 3)) rfl (nZ ?_)))))
    refine Vc.cond' rfl (fun hb6 => ?_) (fun hb6 => ?_)
    · replace h := h.1 hb6
      refine rZ ?_
      refine mvZ (.sl 1 rg 14 g2 0 values1.length) rfl (mvZ (.int .i64 x) rfl (mvZ (.int .i64 n) rfl (wZ rg (o_gtr rfl rfl (wZ rg (o_idxR0 td110 sz4 (by decide) rfl rfl h.1 ?_))))))
      have hi3 := h.1
      replace h := h.2
      refine wZ rg (o_storeR1 (atL (k := 14) rfl) sz4 (by decide) (x' := (decide (0 < n))) (fun _ => rfl) rfl rfl (lt_of hi3 (by first | rfl | omega | (simp only [go_sem] <;> omega))) rfl rfl setL (nZ (rZ (wZ rg (o_addG rfl rfl h.1 ?_)))))
      replace h := h.2
      refine mvZ (.int .i64 (x + 1)) rfl (nZ ?_)
      exact ⟨((x + 1), (set' values1 x (decide (0 < n)))), (canon (fc vr (fc vr (fc (VW.slen (by first | rfl | omega | (simp only [go_sem] <;> omega))) (fc vr (fc vr (fc vr (fn))))))) (sc rfl (sc rfl (sn)))), h⟩
    replace h := h.2 hb6
    refine qZ (rZ (wZ rg (o_eql rfl rfl (asZ (.bool ((at' f.Nodes x).Kind == 4)) rfl (nZ ?_)))))
    refine Vc.cond' rfl (fun hb7 => ?_) (fun hb7 => ?_)
    · replace h := h.1 hb7
      refine rZ ?_
      refine mvZ (.sl 1 rg 14 g2 0 values1.length) rfl (mvZ (.int .i64 x) rfl (mvZ (.int .i64 n) rfl (wZ rg (o_faP td105 rfl rfl (by rw [sz3]; decide) rfl (wZ rg (o_loadB1 (atL (k := 7) rfl) sz3 ag3 rfl rfl (v := .int .i64 ((at' f.Nodes x).K)) rfl (wZ rg (o_geq rfl rfl (wZ rg (o_idxR0 td110 sz4 (by decide) rfl rfl h.1 ?_))))))))))
      have hi4 := h.1
      replace h := h.2
      refine wZ rg (o_storeR1 (atL (k := 14) rfl) sz4 (by decide) (x' := (decide ((at' f.Nodes x).K ≤ n))) (fun _ => rfl) rfl rfl (lt_of hi4 (by first | rfl | omega | (simp only [go_sem] <;> omega))) rfl rfl setL (nZ (rZ (wZ rg (o_addG rfl rfl h.1 ?_)))))
      replace h := h.2
      refine mvZ (.int .i64 (x + 1)) rfl (nZ ?_)
      exact ⟨((x + 1), (set' values1 x (decide ((at' f.Nodes x).K ≤ n)))), (canon (fc vr (fc vr (fc (VW.slen (by first | rfl | omega | (simp only [go_sem] <;> omega))) (fc vr (fc vr (fc vr (fn))))))) (sc rfl (sc rfl (sn)))), h⟩
    replace h := h.2 hb7
    refine rZ ?_
    refine mvZ (.sl 1 rg 14 g2 0 values1.length) rfl (mvZ (.int .i64 x) rfl (mvZ (.int .i64 n) rfl (wZ rg (o_rem rfl rfl (by decide) (wZ rg (o_eql rfl rfl (wZ rg (o_idxR0 td110 sz4 (by decide) rfl rfl h.1 ?_))))))))
    have hi5 := h.1
    replace h := h.2
    refine wZ rg (o_storeR1 (atL (k := 14) rfl) sz4 (by decide) (x' := ((Int.tmod n 2) == 1)) (fun _ => rfl) rfl rfl (lt_of hi5 (by first | rfl | omega | (simp only [go_sem] <;> omega))) rfl rfl setL (nZ (rZ (wZ rg (o_addG rfl rfl h.1 ?_)))))
    replace h := h.2
    refine mvZ (.int .i64 (x + 1)) rfl (nZ ?_)
    exact ⟨((x + 1), (set' values1 x ((Int.tmod n 2) == 1))), (canon (fc vr (fc vr (fc (VW.slen (by first | rfl | omega | (simp only [go_sem] <;> omega))) (fc vr (fc vr (fc vr (fn))))))) (sc rfl (sc rfl (sn)))), h⟩
  replace h := h.2 hb
  refine Vc.exit' (exB_self ?_)
  refine qZ (rZ (mvZ (.sl 1 rg 14 g2 0 values.length) rfl (asZ (.sl 1 rg 14 g2 0 values.length) rfl (nZ ?_))))
  refine Vc.ret' ?_
  refine res_tmp (v := .sl 1 rg 14 g2 0 values.length) rfl (res_nil ?_)
  show Gives _ (.sl 1 rg 14 g2 0 values.length) _
  refine gives_freeze (k := 14) (xs := List.map AV.bool values) rfl (v' := eL AV.bool values) (frz_full rfl) ?_
  exact gives_out hrg (VW.refl _) (hQ _ h)
theorem ref08_Value_ctr {f : GFormula} {failed : Int} {Q : Bool → Prop} {S : St} {R : AV → St → Prop} (h : ref08_Value_W f failed Q) (hQ : ∀ r1, Q r1 → R (AV.bool r1) S) :
    Ctr Try.prog 154 [eFormula f, AV.int .i64 failed] S R := by
  unfold ref08_Value_W at h
  refine enterT Try.func154 rfl Try.ntmps154 Try.results154 (by kernel_rfl) (fun rg hrg => ?_)
  refine qZ (rZ (wZ rg (o_box (v := eFormula f) rfl rfl (kk := 3) rfl (by decide) (fun g1 => (asZ (.bool false) rfl (nZ (qZ ?_)))))))
  obtain ⟨r, hc, h⟩ := h
  obtain ⟨r1, hc1, h⟩ := h
  refine Vc.drawn' mixed rg (usOf [(3, pc (eL AV.bool r)), (7, pc (.bool r1))]) (by kernel_rfl) ?_
  refine dL (E := ([(rg, 2)], [])) rfl rfl (by simp) (cfn) (o_loadBA (atL (k := 2) rfl) sz24 (by decide) ag24 rfl rfl (v := eFormula f) rfl (dL (E := ([(rg, 2)], [])) rfl rfl (by simp) (cfa (by simp [apartE]) (cfn)) (o_loadBA (atL (k := 2) rfl) sz24 (by decide) ag24 rfl rfl (v := eFormula f) rfl (dP rfl rfl (o_move (v := .int .i64 failed) rfl ?_)))))
  refine dC (vs := [eFormula f, AV.int .i64 failed]) rfl (vl' vr (vl' vr (vn))) (fun _ => ref08_Values_ctr hc (fun _ hr => ⟨by rw [hr], rfl⟩)) rfl ?_
  refine dP rfl rfl (o_move (v := .int .i64 failed) rfl (dP rfl rfl (o_faP td24 rfl rfl (by rw [sz3]; decide) rfl (dL (E := ([(rg, 2)], [])) rfl rfl (by simp) (cfa (by simp [apartE]) (cfa (by simp [apartE]) (cfn))) (o_loadB1 (atL (k := 2) rfl) sz3 ag3 rfl rfl (v := .int .i64 f.Top) rfl ?_)))))
  refine dC (vs := [eFormula f, eL AV.bool r, AV.int .i64 failed, AV.int .i64 f.Top]) rfl (vl' vr (vl' vr (vl' vr (vl' vr (vn))))) (fun _ => ref08_Of_ctr hc1 (fun _ hr => ⟨by rw [hr], rfl⟩)) rfl ?_
  refine dP rfl rfl (o_assign (v := .bool r1) rfl (dN ?_))
  refine Vc.ret' ?_
  refine res_tmp (v := .bool r1) rfl (res_nil ?_)
  show Gives _ (.bool r1) _
  exact gives_out hrg (VW.refl _) (hQ _ h)
end Go.Proofs.Ytiamkdpljeemkaa
