/- Walks of functions. Conditions: none. -/
import Derived.Test.YtiamkdpljeemkaaWa
import Derived.Test.YtiamkdpljeemkaaGgTy
import Derived.Test.YtiamkdpljeemkaaK6
/- Walks of functions. Conditions: none. -/
namespace Go.Proofs.Ytiamkdpljeemkaa
open Go.Gg
set_option maxRecDepth 100000
theorem ref17_sequence_ctr {d : GDiagram} {Q : List Int → Prop} {S : St} {R : AV → St → Prop} (h : ref17_sequence_W d Q) (hQ : ∀ r1, Q r1 → R (eL (AV.int .i64) r1) S) :
    Ctr Try.prog 94 [eDiagram d] S R := by
  unfold ref17_sequence_W at h
  refine enterT Try.func94 rfl Try.ntmps94 Try.results94 (by kernel_rfl) (fun rg hrg => ?_)
  refine qZ (rZ (wZ rg (o_box (v := eDiagram d) rfl rfl (kk := 3) rfl (by decide) (fun g1 => (asZ .nil rfl (nZ (qZ (rZ (wZ rg (o_faP td30 rfl rfl (by rw [sz25]; decide) rfl (wZ rg (o_loadB1 (atL (k := 1) rfl) sz25 ag25 rfl rfl (v := eL (AV.int .i64) d.Order) rfl (wZ rg (o_len td25 rfl (wZ rg (o_make td25 bts3 ok3 (enc := AV.int .i64) (z' := 0) zav3 (kk := 1) rfl rfl rfl h.1 (fun g2 => ?_)))))))))))))))))
  replace h := h.2
  refine asZ (.sl 1 rg 11 g2 0 (Int.toNat (d.Order.length : Int))) rfl (nZ (qZ (qZ (rZ (asZ (.int .i64 0) rfl (nZ ?_))))))
  refine Vc.blk ?_
  obtain ⟨I, μ, h0, hI⟩ := h
  refine Vc.loop' (σ := (Int × (List Int))) (fun y => I y) (fun y => μ y) (fun y => envOf [(1, .ptr rg 1 g1 0 0), (3, .sl 1 rg 11 g2 0 y.2.length), (4, .int .i64 y.1)]) (fun y => stL S rg [(1, .arr 3 [eDiagram d], g1), (11, .arr 1 (List.map (AV.int .i64) y.2), g2)]) (0, (rep' (d.Order.length : Int) 0)) (canon (fc vr (fc (VW.slen (by first | rfl | omega | (simp only [go_sem] <;> omega))) (fc vr (fn)))) (sc rfl (sc rfl (sn)))) h0 (fun y h => ?_)
  obtain ⟨i, nodes⟩ := y
  replace h := hI (i, nodes) h
  show Vc _ _ _ _ (envOf [(1, .ptr rg 1 g1 0 0), (3, .sl 1 rg 11 g2 0 nodes.length), (4, .int .i64 i)]) (stL S rg [(1, .arr 3 [eDiagram d], g1), (11, .arr 1 (List.map (AV.int .i64) nodes), g2)])
  refine qZ (qZ (rZ (mvZ (.int .i64 i) rfl (wZ rg (o_faP td30 rfl rfl (by rw [sz28]; decide) rfl (wZ rg (o_loadB1 (atL (k := 1) rfl) sz28 ag28 rfl rfl (v := eL eDNode d.Nodes) rfl (wZ rg (o_len td28 rfl (wZ rg (o_lss rfl rfl (nZ ?_))))))))))))
  refine Vc.cond' rfl (fun hb => ?_) (fun hb => ?_)
  · replace h := h.1 hb
    refine Vc.skip' ?_
    refine qZ ?_
    refine Vc.blk ?_
    refine rZ ?_
    refine mvZ (.sl 1 rg 11 g2 0 nodes.length) rfl (wZ rg (o_faP td30 rfl rfl (by rw [sz28]; decide) rfl (wZ rg (o_loadB1 (atL (k := 1) rfl) sz28 ag28 rfl rfl (v := eL eDNode d.Nodes) rfl (mvZ (.int .i64 i) rfl (wZ rg (o_idxL td28 sz97 (by decide) (fun _ => rfl) rfl rfl h.1 ?_)))))))
    replace h := h.2
    refine wZ rg (o_fa td97 rfl rfl (by rw [sz3]; decide) rfl rfl (wZ rg (o_loadI1 sz3 ag3 rfl rfl (v := .int .i64 ((at' d.Nodes i).Var)) rfl (wZ rg (o_idxR0 td25 sz3 (by decide) rfl rfl h.1 ?_)))))
    have hi := h.1
    replace h := h.2
    refine wZ rg (o_loadR1 (atL (k := 11) rfl) sz3 ag3 rfl (lt_of hi (by first | rfl | omega | (simp only [go_sem] <;> omega))) rfl (v := .int .i64 (at' nodes ((at' d.Nodes i).Var))) rfl (wZ rg (o_addG rfl rfl h.1 ?_)))
    replace h := h.2
    refine wZ rg (o_idxR0 td25 sz3 (by decide) rfl rfl h.1 ?_)
    have hi1 := h.1
    replace h := h.2
    refine wZ rg (o_storeR1 (atL (k := 11) rfl) sz3 (by decide) (x' := ((at' nodes ((at' d.Nodes i).Var)) + 1)) (fun _ => rfl) rfl rfl (lt_of hi1 (by first | rfl | omega | (simp only [go_sem] <;> omega))) rfl rfl setL (nZ (rZ (mvZ (.int .i64 i) rfl (wZ rg (o_addG rfl rfl h.1 ?_))))))
    replace h := h.2
    refine asZ (.int .i64 (i + 1)) rfl (nZ ?_)
    exact ⟨((i + 1), (set' nodes ((at' d.Nodes i).Var) ((at' nodes ((at' d.Nodes i).Var)) + 1))), (canon (fc vr (fc (VW.slen (by first | rfl | omega | (simp only [go_sem] <;> omega))) (fc vr (fn)))) (sc rfl (sc rfl (sn)))), h⟩
  replace h := h.2 hb
  refine Vc.exit' (exB_self ?_)
  refine qZ (rZ (asZ .nil rfl (nZ (qZ (qZ (rZ (wZ rg (o_faP td30 rfl rfl (by rw [sz28]; decide) rfl (wZ rg (o_loadB1 (atL (k := 1) rfl) sz28 ag28 rfl rfl (v := eL eDNode d.Nodes) rfl (wZ rg (o_len td28 rfl (asZ (.int .i64 (d.Nodes.length : Int)) rfl (nZ ?_))))))))))))))
  refine Vc.blk ?_
  refine Vc.mat 5 52 1 rfl (by decide) (fun g3 => ?_)
  obtain ⟨I, μ, h0, hI⟩ := h
  refine Vc.loop' (σ := ((Int × (List Int)) × (Nat))) (fun y => I y.1) (fun y => μ y.1) (fun y => envOf [(3, .sl 1 rg 11 g2 0 nodes.length), (5, .sl 1 rg 52 y.2 0 y.1.2.length), (6, .int .i64 y.1.1)]) (fun y => stL S rg [(11, .arr 1 (List.map (AV.int .i64) nodes), g2), (52, .arr 1 (List.map (AV.int .i64) y.1.2), y.2)]) (((d.Nodes.length : Int), []), g3) (canon (fc vr (fc (VW.slen (by first | rfl | omega | (simp only [go_sem] <;> omega))) (fc vr (fn)))) (sc rfl (sc rfl (sn)))) h0 (fun y h => ?_)
  obtain ⟨⟨most, out⟩, g4⟩ := y
  replace h := hI (most, out) h
  show Vc _ _ _ _ (envOf [(3, .sl 1 rg 11 g2 0 nodes.length), (5, .sl 1 rg 52 g4 0 out.length), (6, .int .i64 most)]) (stL S rg [(11, .arr 1 (List.map (AV.int .i64) nodes), g2), (52, .arr 1 (List.map (AV.int .i64) out), g4)])
  refine qZ (qZ (rZ (mvZ (.int .i64 most) rfl (wZ rg (o_geq rfl rfl (nZ ?_))))))
  refine Vc.cond' rfl (fun hb1 => ?_) (fun hb1 => ?_)
  · replace h := h.1 hb1
    refine Vc.skip' ?_
    refine qZ ?_
    refine Vc.blk ?_
    refine qZ (rZ (asZ (.int .i64 0) rfl (nZ ?_)))
    refine Vc.blk ?_
    obtain ⟨I, μ, h0, hI⟩ := h
    refine Vc.loop' (σ := ((Int × (List Int)) × (Nat))) (fun y => I y.1) (fun y => μ y.1) (fun y => envOf [(3, .sl 1 rg 11 g2 0 nodes.length), (5, .sl 1 rg 52 y.2 0 y.1.2.length), (6, .int .i64 most), (7, .int .i64 y.1.1)]) (fun y => stL S rg [(11, .arr 1 (List.map (AV.int .i64) nodes), g2), (52, .arr 1 (List.map (AV.int .i64) y.1.2), y.2)]) ((0, out), g4) (canon (fc vr (fc vr (fc vr (fc vr (fn))))) (sc rfl (sc rfl (sn)))) h0 (fun y h => ?_)
    obtain ⟨⟨i1, out1⟩, g5⟩ := y
    replace h := hI (i1, out1) h
    show Vc _ _ _ _ (envOf [(3, .sl 1 rg 11 g2 0 nodes.length), (5, .sl 1 rg 52 g5 0 out1.length), (6, .int .i64 most), (7, .int .i64 i1)]) (stL S rg [(11, .arr 1 (List.map (AV.int .i64) nodes), g2), (52, .arr 1 (List.map (AV.int .i64) out1), g5)])
    refine qZ (qZ (rZ (mvZ (.int .i64 i1) rfl (mvZ (.sl 1 rg 11 g2 0 nodes.length) rfl (wZ rg (o_lenR td25 rfl (wZ rg (o_lss rfl rfl (nZ ?_)))))))))
    refine Vc.cond' rfl (fun hb2 => ?_) (fun hb2 => ?_)
    · replace h := h.1 hb2
      refine Vc.skip' ?_
      refine qZ ?_
      refine Vc.blk ?_
      refine qZ (rZ (mvZ (.sl 1 rg 11 g2 0 nodes.length) rfl (mvZ (.int .i64 i1) rfl (wZ rg (o_idxR0 td25 sz3 (by decide) rfl rfl h.1 ?_)))))
      have hi2 := h.1
      replace h := h.2
      refine wZ rg (o_loadR1 (atL (k := 11) rfl) sz3 ag3 rfl (lt_of hi2 (by first | rfl | omega | (simp only [go_sem] <;> omega))) rfl (v := .int .i64 (at' nodes i1)) rfl (mvZ (.int .i64 most) rfl (wZ rg (o_eql rfl rfl (nZ ?_)))))
      refine Vc.cond' rfl (fun hb3 => ?_) (fun hb3 => ?_)
      · replace h := h.1 hb3
        refine rZ ?_
        refine mvZ (.sl 1 rg 52 g5 0 out1.length) rfl (mvZ (.int .i64 i1) rfl (wZ rg (o_bslice td25 ok3 zav3 (es := [.int .i64 i1]) rfl (kk := 1) rfl rfl rfl rfl rfl rfl (fun g6 => ?_))))
        refine wZ rg (o_appR td25 bts3 ok3 zav3 (es := out1) (xs := [i1]) (enc := AV.int .i64) (atL (k := 52) rfl) (by first | rfl | omega | (simp only [go_sem] <;> omega)) (view_rowE (atL (k := 51) rfl) (by first | rfl | omega | (simp only [go_sem] <;> omega))) (kk := 1) rfl rfl (fun _ => rfl) (fun _ => rfl) h.1 rfl (fun _ => setL) (fun g7 => ?_))
        replace h := h.2
        refine asZ (.sl 1 rg 52 g7 0 ((out1 ++ [i1]).length)) rfl (nZ (rZ (mvZ (.int .i64 i1) rfl (wZ rg (o_addG rfl rfl h.1 ?_)))))
        replace h := h.2
        refine asZ (.int .i64 (i1 + 1)) rfl (nZ ?_)
        exact ⟨(((i1 + 1), (out1 ++ [i1])), g7), (canon (fc vr (fc vr (fc vr (fc vr (fn))))) (sc rfl (sc rfl (sn)))), h⟩
      replace h := h.2 hb3
      refine Vc.skip' ?_
      refine rZ ?_
      refine mvZ (.int .i64 i1) rfl (wZ rg (o_addG rfl rfl h.1 ?_))
      replace h := h.2
      refine asZ (.int .i64 (i1 + 1)) rfl (nZ ?_)
      exact ⟨(((i1 + 1), out1), g5), (canon (fc vr (fc vr (fc vr (fc vr (fn))))) (sc rfl (sc rfl (sn)))), h⟩
    replace h := h.2 hb2
    refine Vc.exit' (exB_self ?_)
    refine rZ ?_
    refine mvZ (.int .i64 most) rfl (wZ rg (o_subG rfl rfl h.1 ?_))
    replace h := h.2
    refine asZ (.int .i64 (most - 1)) rfl (nZ ?_)
    exact ⟨(((most - 1), out1), g5), (canon (fc vr (fc vr (fc vr (fn)))) (sc rfl (sc rfl (sn)))), h⟩
  replace h := h.2 hb1
  refine Vc.exit' (exB_self ?_)
  refine qZ (rZ (mvZ (.sl 1 rg 52 g4 0 out.length) rfl (asZ (.sl 1 rg 52 g4 0 out.length) rfl (nZ ?_))))
  refine Vc.ret' ?_
  refine res_tmp (v := .sl 1 rg 52 g4 0 out.length) rfl (res_nil ?_)
  show Gives _ (.sl 1 rg 52 g4 0 out.length) _
  refine gives_freeze (k := 52) (xs := List.map (AV.int .i64) out) rfl (v' := eL (AV.int .i64) out) (frz_full rfl) ?_
  exact gives_out hrg (VW.refl _) (hQ _ h)
theorem ref17_Sift_ctr {d : GDiagram} {Q : GDiagram → Prop} {S : St} {R : AV → St → Prop} (h : ref17_Sift_W d Q) (hQ : ∀ r1, Q r1 → R (eDiagram r1) S) :
    Ctr Try.prog 39 [eDiagram d] S R := by
  unfold ref17_Sift_W at h
  refine enterT Try.func39 rfl Try.ntmps39 Try.results39 (by kernel_rfl) (fun rg hrg => ?_)
  refine qZ (rZ (wZ rg (o_box (v := eDiagram d) rfl rfl (kk := 3) rfl (by decide) (fun g1 => (wZ rg (o_alloc zav30 ok30 (kk := 3) rfl (fun g2 => (nZ (qZ (rZ (wZ rg (o_loadBA (atL (k := 1) rfl) sz30 (by decide) ag30 rfl rfl (v := eDiagram d) rfl (wZ rg (o_call (us := [eDiagram d]) rfl (vl' vr (vn)) (ref17_sequence_ctr h fun l h => (asZ (eL (AV.int .i64) l) rfl (nZ (qZ (qZ (rZ ?_))))))))))))))))))))
  refine asZ (.int .i64 0) rfl (nZ ?_)
  refine Vc.blk ?_
  obtain ⟨I, μ, h0, hI⟩ := h
  refine Vc.loop' (σ := (Int × GDiagram)) (fun y => I y) (fun y => μ y) (fun y => envOf [(1, .ptr rg 1 g1 0 0), (2, .ptr rg 2 g2 0 0), (3, eL (AV.int .i64) l), (4, .int .i64 y.1)]) (fun y => stL S rg [(1, .arr 3 [eDiagram y.2], g1), (2, .arr 3 [.agg [.nil, .nil, .int .i64 0]], g2)]) (0, d) (canon (fc vr (fc vr (fc vr (fc vr (fn))))) (sc rfl (sc rfl (sn)))) h0 (fun y h => ?_)
  obtain ⟨i, x⟩ := y
  replace h := hI (i, x) h
  show Vc _ _ _ _ (envOf [(1, .ptr rg 1 g1 0 0), (2, .ptr rg 2 g2 0 0), (3, eL (AV.int .i64) l), (4, .int .i64 i)]) (stL S rg [(1, .arr 3 [eDiagram x], g1), (2, .arr 3 [.agg [.nil, .nil, .int .i64 0]], g2)])
  refine qZ (qZ (rZ (mvZ (.int .i64 i) rfl (mvZ (eL (AV.int .i64) l) rfl (wZ rg (o_len td25 rfl (wZ rg (o_lss rfl rfl (nZ ?_)))))))))
  refine Vc.cond' rfl (fun hb => ?_) (fun hb => ?_)
  · replace h := h.1 hb
    refine Vc.skip' ?_
    refine qZ ?_
    refine Vc.blk ?_
    refine qZ ?_
    have hg := h.1
    replace h := h.2
    obtain ⟨r, hc, h⟩ := h
    refine Vc.drawn' mixed rg (usOf [(5, pc (eDiagram r))]) (by kernel_rfl) ?_
    refine dL (E := ([(rg, 1)], [])) rfl rfl (by simp) (cfn) (o_loadBA (atL (k := 1) rfl) sz30 (by decide) ag30 rfl rfl (v := eDiagram x) rfl (dP rfl rfl (o_move (v := eL (AV.int .i64) l) rfl (dP rfl rfl (o_move (v := .int .i64 i) rfl (dP rfl rfl (o_idxL td25 sz3 (by decide) (fun _ => rfl) rfl rfl hg (dP rfl rfl (o_loadI1 sz3 ag3 rfl rfl (v := .int .i64 (at' l i)) rfl ?_)))))))))
    refine dC (vs := [eDiagram x, AV.int .i64 (at' l i), AV.int .i64 0]) rfl (vl' vr (vl' vr (vl' vr (vn)))) (fun _ => ref17_Move_ctr hc (fun _ hr => ⟨by rw [hr], rfl⟩)) rfl ?_
    refine dL (E := ([], [(rg, 5)])) rfl rfl (by simp) (cfa (by simp [apartE]) (cfn)) (o_alloc zav30 ok30 (kk := 3) rfl (fun g3 => (dL (E := ([], [(rg, 5)])) rfl rfl (by simp) (cfo (by kernel_rfl) (cfo (by kernel_rfl) (cfn))) (o_storeB (atL (k := 5) rfl) sz30 (by decide) rfl (w := eDiagram r) rfl rfl rfl (v := eDiagram r) rfl setL (dN (qZ (qZ (rZ (asZ (.int .i64 1) rfl (nZ ?_))))))))))
    refine Vc.blk ?_
    obtain ⟨I, μ, h0, hI⟩ := h
    refine Vc.loop' (σ := (Int × GDiagram)) (fun y => I y) (fun y => μ y) (fun y => envOf [(1, .ptr rg 1 g1 0 0), (2, .ptr rg 2 g2 0 0), (3, eL (AV.int .i64) l), (4, .int .i64 i), (5, .ptr rg 5 g3 0 0), (6, .int .i64 y.1)]) (fun y => stL S rg [(1, .arr 3 [eDiagram x], g1), (2, .arr 3 [.agg [.nil, .nil, .int .i64 0]], g2), (5, .arr 3 [eDiagram y.2], g3)]) (1, r) (canon (fc vr (fc vr (fc vr (fc vr (fc vr (fc vr (fn))))))) (sc rfl (sc rfl (sc rfl (sn))))) h0 (fun y h => ?_)
    obtain ⟨place, x1⟩ := y
    replace h := hI (place, x1) h
    show Vc _ _ _ _ (envOf [(1, .ptr rg 1 g1 0 0), (2, .ptr rg 2 g2 0 0), (3, eL (AV.int .i64) l), (4, .int .i64 i), (5, .ptr rg 5 g3 0 0), (6, .int .i64 place)]) (stL S rg [(1, .arr 3 [eDiagram x], g1), (2, .arr 3 [.agg [.nil, .nil, .int .i64 0]], g2), (5, .arr 3 [eDiagram x1], g3)])
    refine qZ (qZ (rZ (mvZ (.int .i64 place) rfl (wZ rg (o_faP td30 rfl rfl (by rw [sz25]; decide) rfl (wZ rg (o_loadB1 (atL (k := 1) rfl) sz25 ag25 rfl rfl (v := eL (AV.int .i64) x.Order) rfl (wZ rg (o_len td25 rfl (wZ rg (o_lss rfl rfl (nZ ?_))))))))))))
    refine Vc.cond' rfl (fun hb1 => ?_) (fun hb1 => ?_)
    · replace h := h.1 hb1
      refine Vc.skip' ?_
      refine qZ ?_
      refine Vc.blk ?_
      refine qZ ?_
      have hg1 := h.1
      replace h := h.2
      obtain ⟨r1, hc1, h⟩ := h
      refine Vc.drawn' mixed rg (usOf [(6, pc (eDiagram r1))]) (by kernel_rfl) ?_
      refine dL (E := ([(rg, 1)], [])) rfl rfl (by simp) (cfn) (o_loadBA (atL (k := 1) rfl) sz30 (by decide) ag30 rfl rfl (v := eDiagram x) rfl (dP rfl rfl (o_move (v := eL (AV.int .i64) l) rfl (dP rfl rfl (o_move (v := .int .i64 i) rfl (dP rfl rfl (o_idxL td25 sz3 (by decide) (fun _ => rfl) rfl rfl hg1 (dP rfl rfl (o_loadI1 sz3 ag3 rfl rfl (v := .int .i64 (at' l i)) rfl ?_)))))))))
      refine dP rfl rfl (o_move (v := .int .i64 place) rfl ?_)
      refine dC (vs := [eDiagram x, AV.int .i64 (at' l i), AV.int .i64 place]) rfl (vl' vr (vl' vr (vl' vr (vn)))) (fun _ => ref17_Move_ctr hc1 (fun _ hr => ⟨by rw [hr], rfl⟩)) rfl ?_
      refine dL (E := ([], [(rg, 7)])) rfl rfl (by simp) (cfa (by simp [apartE]) (cfn)) (o_alloc zav30 ok30 (kk := 3) rfl (fun g4 => (dL (E := ([], [(rg, 7)])) rfl rfl (by simp) (cfo (by kernel_rfl) (cfo (by kernel_rfl) (cfn))) (o_storeB (atL (k := 7) rfl) sz30 (by decide) rfl (w := eDiagram r1) rfl rfl rfl (v := eDiagram r1) rfl setL (dN (qZ (rZ (wZ rg (o_faP td30 rfl rfl (by rw [sz28]; decide) rfl ?_)))))))))
      refine wZ rg (o_loadB1 (atL (k := 7) rfl) sz28 ag28 rfl rfl (v := eL eDNode r1.Nodes) rfl (wZ rg (o_len td28 rfl (wZ rg (o_faP td30 rfl rfl (by rw [sz28]; decide) rfl (wZ rg (o_loadB1 (atL (k := 5) rfl) sz28 ag28 rfl rfl (v := eL eDNode x1.Nodes) rfl (wZ rg (o_len td28 rfl (wZ rg (o_lss rfl rfl (nZ ?_))))))))))))
      refine Vc.cond' rfl (fun hb2 => ?_) (fun hb2 => ?_)
      · replace h := h.1 hb2
        refine rZ ?_
        refine wZ rg (o_loadBA (atL (k := 7) rfl) sz30 (by decide) ag30 rfl rfl (v := eDiagram r1) rfl (wZ rg (o_storeB (atL (k := 5) rfl) sz30 (by decide) rfl (w := eDiagram r1) rfl rfl rfl (v := eDiagram r1) rfl setL (nZ (rZ (mvZ (.int .i64 place) rfl (wZ rg (o_addG rfl rfl h.1 ?_))))))))
        replace h := h.2
        refine asZ (.int .i64 (place + 1)) rfl (nZ ?_)
        exact ⟨((place + 1), r1), (canon (fc vr (fc vr (fc vr (fc vr (fc vr (fc vr (fn))))))) (sc rfl (sc rfl (sc rfl (sn))))), h⟩
      replace h := h.2 hb2
      refine Vc.skip' ?_
      refine rZ ?_
      refine mvZ (.int .i64 place) rfl (wZ rg (o_addG rfl rfl h.1 ?_))
      replace h := h.2
      refine asZ (.int .i64 (place + 1)) rfl (nZ ?_)
      exact ⟨((place + 1), x1), (canon (fc vr (fc vr (fc vr (fc vr (fc vr (fc vr (fn))))))) (sc rfl (sc rfl (sc rfl (sn))))), h⟩
    replace h := h.2 hb1
    refine Vc.exit' (exB_self ?_)
    refine rZ ?_
    refine wZ rg (o_loadBA (atL (k := 5) rfl) sz30 (by decide) ag30 rfl rfl (v := eDiagram x1) rfl (wZ rg (o_storeB (atL (k := 1) rfl) sz30 (by decide) rfl (w := eDiagram x1) rfl rfl rfl (v := eDiagram x1) rfl setL (nZ (rZ (mvZ (.int .i64 i) rfl (wZ rg (o_addG rfl rfl h.1 ?_))))))))
    replace h := h.2
    refine asZ (.int .i64 (i + 1)) rfl (nZ ?_)
    exact ⟨((i + 1), x1), (canon (fc vr (fc vr (fc vr (fc vr (fn))))) (sc rfl (sc rfl (sn)))), h⟩
  replace h := h.2 hb
  refine Vc.exit' (exB_self ?_)
  refine qZ (rZ (wZ rg (o_loadBA (atL (k := 1) rfl) sz30 (by decide) ag30 rfl rfl (v := eDiagram x) rfl (wZ rg (o_storeB (atL (k := 2) rfl) sz30 (by decide) rfl (w := eDiagram x) rfl rfl rfl (v := eDiagram x) rfl setL (nZ ?_))))))
  refine Vc.ret' ?_
  refine res_cellA (atL (k := 2) rfl) sz30 (by decide) ag30 rfl rfl (v := eDiagram x) rfl (res_nil ?_)
  show Gives _ (eDiagram x) _
  exact gives_out hrg (VW.refl _) (hQ _ h)
end Go.Proofs.Ytiamkdpljeemkaa
