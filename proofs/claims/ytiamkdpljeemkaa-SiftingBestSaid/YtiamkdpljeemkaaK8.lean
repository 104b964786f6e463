/- Walks of functions. Conditions: none. -/
import Derived.Test.YtiamkdpljeemkaaWa
import Derived.Test.YtiamkdpljeemkaaGgTy
import Derived.Test.YtiamkdpljeemkaaGd
import Derived.Test.YtiamkdpljeemkaaK4
import Derived.Test.YtiamkdpljeemkaaK5
/- Walks of functions. Conditions: none. -/
namespace Go.Proofs.Ytiamkdpljeemkaa
open Go.Gg
set_option maxRecDepth 100000
theorem ref17_Orders_ctr {n : Int} {Q : List (List Int) → Prop} {S : St} {R : AV → St → Prop} (h : ref17_Orders_W n Q) (hQ : ∀ r1, Q r1 → R (eL (eL (AV.int .i64)) r1) S) :
    Ctr Try.prog 97 [AV.int .i64 n] S R := by
  unfold ref17_Orders_W at h
  refine enterT Try.func97 rfl Try.ntmps97 Try.results97 (by kernel_rfl) (fun rg hrg => ?_)
  refine qZ (rZ (asZ .nil rfl (nZ (qZ (rZ (wZ rg (o_bslice td127 ok25 zav25 (es := [.nil]) rfl (kk := 1) rfl rfl rfl rfl rfl rfl (fun g1 => ?_))))))))
  refine Wl.wk (EWk.ow (k := 9) (o' := .arr 1 (List.map (eL (AV.int .i64)) [[]])) rfl (OW.all (owac (VWL.vwc (a := .nil) (b := eL (AV.int .i64) []) (vl' (VW.nilL) (vn))) (owan)))) ?_
  refine asZ (.sl 1 rg 9 g1 0 1) rfl (nZ (qZ (qZ (rZ (asZ (.int .i64 0) rfl (nZ ?_))))))
  refine Vc.blk ?_
  refine Vc.wk (canon_freeze (k := 9) (xs := List.map (eL (AV.int .i64)) [[]]) rfl (es := [(0, .int .i64 n), (3, eL (eL (AV.int .i64)) [[]]), (4, .int .i64 0)]) (fc vr (fc (frz_full (by first | rfl | omega | (simp only [go_sem] <;> omega))) (fc vr (fn)))) (m := []) (sn)) ?_
  obtain ⟨I, μ, h0, hI⟩ := h
  refine Vc.loop' (σ := ((List (List Int)) × Int)) (fun y => I y) (fun y => μ y) (fun y => envOf [(0, .int .i64 n), (3, eL (eL (AV.int .i64)) y.1), (4, .int .i64 y.2)]) (fun y => stL S rg []) ([[]], 0) (canon (fc vr (fc vr (fc vr (fn)))) (sn)) h0 (fun y h => ?_)
  obtain ⟨out, k1⟩ := y
  replace h := hI (out, k1) h
  show Vc _ _ _ _ (envOf [(0, .int .i64 n), (3, eL (eL (AV.int .i64)) out), (4, .int .i64 k1)]) (stL S rg [])
  refine qZ (qZ (rZ (mvZ (.int .i64 k1) rfl (mvZ (.int .i64 n) rfl (wZ rg (o_lss rfl rfl (nZ ?_)))))))
  refine Vc.cond' rfl (fun hb => ?_) (fun hb => ?_)
  · replace h := h.1 hb
    refine Vc.skip' ?_
    refine qZ ?_
    refine Vc.blk ?_
    refine qZ (rZ (asZ .nil rfl (nZ (qZ (qZ (rZ (asZ (.int .i64 0) rfl (nZ ?_))))))))
    refine Vc.blk ?_
    refine Vc.mat 5 45 1 rfl (by decide) (fun g2 => ?_)
    obtain ⟨I, μ, h0, hI⟩ := h
    refine Vc.loop' (σ := ((Int × (List (List Int))) × (Nat))) (fun y => I y.1) (fun y => μ y.1) (fun y => envOf [(0, .int .i64 n), (3, eL (eL (AV.int .i64)) out), (4, .int .i64 k1), (5, .sl 1 rg 45 y.2 0 y.1.2.length), (6, .int .i64 y.1.1)]) (fun y => stL S rg [(45, .arr 1 (List.map (eL (AV.int .i64)) y.1.2), y.2)]) ((0, []), g2) (canon (fc vr (fc vr (fc vr (fc (VW.slen (by first | rfl | omega | (simp only [go_sem] <;> omega))) (fc vr (fn)))))) (sc rfl (sn))) h0 (fun y h => ?_)
    obtain ⟨⟨i, next2⟩, g3⟩ := y
    replace h := hI (i, next2) h
    show Vc _ _ _ _ (envOf [(0, .int .i64 n), (3, eL (eL (AV.int .i64)) out), (4, .int .i64 k1), (5, .sl 1 rg 45 g3 0 next2.length), (6, .int .i64 i)]) (stL S rg [(45, .arr 1 (List.map (eL (AV.int .i64)) next2), g3)])
    refine qZ (qZ (rZ (mvZ (.int .i64 i) rfl (mvZ (eL (eL (AV.int .i64)) out) rfl (wZ rg (o_len td127 rfl (wZ rg (o_lss rfl rfl (nZ ?_)))))))))
    refine Vc.cond' rfl (fun hb1 => ?_) (fun hb1 => ?_)
    · replace h := h.1 hb1
      refine Vc.skip' ?_
      refine qZ ?_
      refine Vc.blk ?_
      refine qZ (rZ (asZ (.int .i64 0) rfl (nZ ?_)))
      refine Vc.blk ?_
      obtain ⟨I, μ, h0, hI⟩ := h
      refine Vc.loop' (σ := ((Int × (List (List Int))) × (Nat))) (fun y => I y.1) (fun y => μ y.1) (fun y => envOf [(0, .int .i64 n), (3, eL (eL (AV.int .i64)) out), (4, .int .i64 k1), (5, .sl 1 rg 45 y.2 0 y.1.2.length), (6, .int .i64 i), (7, .int .i64 y.1.1)]) (fun y => stL S rg [(45, .arr 1 (List.map (eL (AV.int .i64)) y.1.2), y.2)]) ((0, next2), g3) (canon (fc vr (fc vr (fc vr (fc vr (fc vr (fc vr (fn))))))) (sc rfl (sn))) h0 (fun y h => ?_)
      obtain ⟨⟨v, next4⟩, g4⟩ := y
      replace h := hI (v, next4) h
      show Vc _ _ _ _ (envOf [(0, .int .i64 n), (3, eL (eL (AV.int .i64)) out), (4, .int .i64 k1), (5, .sl 1 rg 45 g4 0 next4.length), (6, .int .i64 i), (7, .int .i64 v)]) (stL S rg [(45, .arr 1 (List.map (eL (AV.int .i64)) next4), g4)])
      refine qZ (qZ (rZ (mvZ (.int .i64 v) rfl (mvZ (.int .i64 n) rfl (wZ rg (o_lss rfl rfl (nZ ?_)))))))
      refine Vc.cond' rfl (fun hb2 => ?_) (fun hb2 => ?_)
      · replace h := h.1 hb2
        refine Vc.skip' ?_
        refine qZ ?_
        refine Vc.blk ?_
        refine qZ (qZ (rZ (mvZ (eL (eL (AV.int .i64)) out) rfl (mvZ (.int .i64 i) rfl (wZ rg (o_idxL td127 sz25 (by decide) (fun _ => rfl) rfl rfl h.1 ?_))))))
        replace h := h.2
        refine wZ rg (o_loadI1 sz25 ag25 rfl rfl (v := eL (AV.int .i64) (at' out i)) rfl (mvZ (.int .i64 v) rfl (wZ rg (o_call (us := [eL (AV.int .i64) (at' out i), AV.int .i64 v]) rfl (vl' vr (vl' vr (vn))) (ref14_Place_ctr h fun r h => (wZ rg (o_geq rfl rfl (nZ ?_))))))))
        refine Vc.cond' rfl (fun hb3 => ?_) (fun hb3 => ?_)
        · replace h := h.1 hb3
          refine Vc.exit' (exB_self ?_)
          refine rZ ?_
          refine mvZ (.int .i64 v) rfl (wZ rg (o_addG rfl rfl h.1 ?_))
          replace h := h.2
          refine asZ (.int .i64 (v + 1)) rfl (nZ ?_)
          exact ⟨(((v + 1), next4), g4), (canon (fc vr (fc vr (fc vr (fc vr (fc vr (fc vr (fn))))))) (sc rfl (sn))), h⟩
        replace h := h.2 hb3
        refine Vc.skip' ?_
        refine qZ (rZ (asZ .nil rfl (nZ (qZ (rZ (mvZ .nil rfl (mvZ (eL (eL (AV.int .i64)) out) rfl (mvZ (.int .i64 i) rfl (wZ rg (o_idxL td127 sz25 (by decide) (fun _ => rfl) rfl rfl h.1 ?_))))))))))
        replace h := h.2
        refine wZ rg (o_loadI1 sz25 ag25 rfl rfl (v := eL (AV.int .i64) (at' out i)) rfl (wZ rg (o_appN td25 bts3 ok3 zav3 (xs := (at' out i)) (enc := AV.int .i64) (rfl) (kk := 1) rfl rfl (fun _ => rfl) (fun _ => rfl) h.1 rfl (fun g5 => ?_))))
        replace h := h.2
        refine asZ (.sl 1 rg 38 g5 0 ((at' out i).length)) rfl (nZ (rZ (mvZ (.sl 1 rg 45 g4 0 next4.length) rfl (mvZ (.sl 1 rg 38 g5 0 ((at' out i).length)) rfl (mvZ (.int .i64 v) rfl (wZ rg (o_bslice td25 ok3 zav3 (es := [.int .i64 v]) rfl (kk := 1) rfl rfl rfl rfl rfl rfl (fun g6 => ?_))))))))
        refine wZ rg (o_appR td25 bts3 ok3 zav3 (es := (at' out i)) (xs := [v]) (enc := AV.int .i64) (atL (k := 38) rfl) (by first | rfl | omega | (simp only [go_sem] <;> omega)) (view_rowE (atL (k := 42) rfl) (by first | rfl | omega | (simp only [go_sem] <;> omega))) (kk := 1) rfl rfl (fun _ => rfl) (fun _ => rfl) h.1 rfl (fun _ => setL) (fun g7 => ?_))
        replace h := h.2
        refine Wl.wk (canon_freeze (k := 38) (xs := List.map (AV.int .i64) ((at' out i) ++ [v])) rfl (es := [(0, .int .i64 n), (3, eL (eL (AV.int .i64)) out), (4, .int .i64 k1), (6, .int .i64 i), (7, .int .i64 v), (39, .sl 1 rg 45 g4 0 next4.length), (43, eL (AV.int .i64) ((at' out i) ++ [v]))]) (fc vr (fc vr (fc vr (fc vr (fc vr (fc (frz_ne rfl) (fc (frz_full rfl) (fn)))))))) (m := [(45, .arr 1 (List.map (eL (AV.int .i64)) next4), g4)]) (sc rfl (sn))) ?_
        refine wZ rg (o_bslice td127 ok25 zav25 (es := [eL (AV.int .i64) ((at' out i) ++ [v])]) rfl (kk := 1) rfl rfl rfl rfl rfl rfl (fun g9 => ?_))
        refine wZ rg (o_appR td127 bts25 ok25 zav25 (es := next4) (xs := [((at' out i) ++ [v])]) (enc := eL (AV.int .i64)) (atL (k := 45) rfl) (by first | rfl | omega | (simp only [go_sem] <;> omega)) (view_rowE (atL (k := 44) rfl) (by first | rfl | omega | (simp only [go_sem] <;> omega))) (kk := 1) rfl rfl (fun _ => rfl) (fun _ => rfl) h.1 rfl (fun _ => setL) (fun g10 => ?_))
        replace h := h.2
        refine asZ (.sl 1 rg 45 g10 0 ((next4 ++ [((at' out i) ++ [v])]).length)) rfl (nZ (rZ (mvZ (.int .i64 v) rfl (wZ rg (o_addG rfl rfl h.1 ?_)))))
        replace h := h.2
        refine asZ (.int .i64 (v + 1)) rfl (nZ ?_)
        exact ⟨(((v + 1), (next4 ++ [((at' out i) ++ [v])])), g10), (canon (fc vr (fc vr (fc vr (fc vr (fc vr (fc vr (fn))))))) (sc rfl (sn))), h⟩
      replace h := h.2 hb2
      refine Vc.exit' (exB_self ?_)
      refine rZ ?_
      refine mvZ (.int .i64 i) rfl (wZ rg (o_addG rfl rfl h.1 ?_))
      replace h := h.2
      refine asZ (.int .i64 (i + 1)) rfl (nZ ?_)
      exact ⟨(((i + 1), next4), g4), (canon (fc vr (fc vr (fc vr (fc vr (fc vr (fn)))))) (sc rfl (sn))), h⟩
    replace h := h.2 hb1
    refine Vc.exit' (exB_self ?_)
    refine rZ ?_
    refine mvZ (.sl 1 rg 45 g3 0 next2.length) rfl (asZ (.sl 1 rg 45 g3 0 next2.length) rfl (nZ (rZ (mvZ (.int .i64 k1) rfl (wZ rg (o_addG rfl rfl h.1 ?_))))))
    replace h := h.2
    refine asZ (.int .i64 (k1 + 1)) rfl (nZ ?_)
    exact ⟨(next2, (k1 + 1)), (EWk.trans (canon_freeze (k := 45) (xs := List.map (eL (AV.int .i64)) next2) rfl (es := [(0, .int .i64 n), (3, eL (eL (AV.int .i64)) next2), (4, .int .i64 (k1 + 1))]) (fc vr (fc (frz_full rfl) (fc vr (fn)))) (m := []) (sn)) (canon (fc vr (fc vr (fc vr (fn)))) (sn))), h⟩
  replace h := h.2 hb
  refine Vc.exit' (exB_self ?_)
  refine qZ (rZ (mvZ (eL (eL (AV.int .i64)) out) rfl (asZ (eL (eL (AV.int .i64)) out) rfl (nZ ?_))))
  refine Vc.ret' ?_
  refine res_tmp (v := eL (eL (AV.int .i64)) out) rfl (res_nil ?_)
  show Gives _ (eL (eL (AV.int .i64)) out) _
  exact gives_out hrg (VW.refl _) (hQ _ h)
theorem ref17_Best_ctr {d : GDiagram} {Q : GDiagram → Prop} {S : St} {R : AV → St → Prop} (h : ref17_Best_W d Q) (hQ : ∀ r1, Q r1 → R (eDiagram r1) S) :
    Ctr Try.prog 41 [eDiagram d] S R := by
  unfold ref17_Best_W at h
  refine enterT Try.func41 rfl Try.ntmps41 Try.results41 (by kernel_rfl) (fun rg hrg => ?_)
  refine qZ (rZ (wZ rg (o_box (v := eDiagram d) rfl rfl (kk := 3) rfl (by decide) (fun g1 => (wZ rg (o_alloc zav30 ok30 (kk := 3) rfl (fun g2 => (nZ (qZ (rZ (wZ rg (o_faP td30 rfl rfl (by rw [sz25]; decide) rfl (wZ rg (o_loadB1 (atL (k := 1) rfl) sz25 ag25 rfl rfl (v := eL (AV.int .i64) d.Order) rfl (wZ rg (o_len td25 rfl ?_))))))))))))))))
  refine wZ rg (o_call (us := [AV.int .i64 (d.Order.length : Int)]) rfl (vl' vr (vn)) (ref17_Orders_ctr h fun l h => (asZ (eL (eL (AV.int .i64)) l) rfl (nZ (qZ ?_)))))
  have hg := h.1
  replace h := h.2
  obtain ⟨r, hc, h⟩ := h
  refine Vc.drawn' mixed rg (usOf [(4, pc (eDiagram r))]) (by kernel_rfl) ?_
  refine dL (E := ([(rg, 1)], [])) rfl rfl (by simp) (cfn) (o_loadBA (atL (k := 1) rfl) sz30 (by decide) ag30 rfl rfl (v := eDiagram d) rfl (dP rfl rfl (o_move (v := eL (eL (AV.int .i64)) l) rfl (dP rfl rfl (o_idxL td127 sz25 (by decide) (fun _ => rfl) rfl rfl hg (dP rfl rfl (o_loadI1 sz25 ag25 rfl rfl (v := eL (AV.int .i64) (at' l 0)) rfl ?_)))))))
  refine dC (vs := [eDiagram d, eL (AV.int .i64) (at' l 0)]) rfl (vl' vr (vl' vr (vn))) (fun _ => ref17_Reorder_ctr hc (fun _ hr => ⟨by rw [hr], rfl⟩)) rfl ?_
  refine dL (E := ([], [(rg, 4)])) rfl rfl (by simp) (cfa (by simp [apartE]) (cfn)) (o_alloc zav30 ok30 (kk := 3) rfl (fun g3 => (dL (E := ([], [(rg, 4)])) rfl rfl (by simp) (cfo (by kernel_rfl) (cfo (by kernel_rfl) (cfn))) (o_storeB (atL (k := 4) rfl) sz30 (by decide) rfl (w := eDiagram r) rfl rfl rfl (v := eDiagram r) rfl setL (dN (qZ (qZ (rZ (asZ (.int .i64 1) rfl (nZ ?_))))))))))
  refine Vc.blk ?_
  obtain ⟨I, μ, h0, hI⟩ := h
  refine Vc.loop' (σ := (Int × GDiagram)) (fun y => I y) (fun y => μ y) (fun y => envOf [(1, .ptr rg 1 g1 0 0), (2, .ptr rg 2 g2 0 0), (3, eL (eL (AV.int .i64)) l), (4, .ptr rg 4 g3 0 0), (5, .int .i64 y.1)]) (fun y => stL S rg [(1, .arr 3 [eDiagram d], g1), (2, .arr 3 [.agg [.nil, .nil, .int .i64 0]], g2), (4, .arr 3 [eDiagram y.2], g3)]) (1, r) (canon (fc vr (fc vr (fc vr (fc vr (fc vr (fn)))))) (sc rfl (sc rfl (sc rfl (sn))))) h0 (fun y h => ?_)
  obtain ⟨i, x⟩ := y
  replace h := hI (i, x) h
  show Vc _ _ _ _ (envOf [(1, .ptr rg 1 g1 0 0), (2, .ptr rg 2 g2 0 0), (3, eL (eL (AV.int .i64)) l), (4, .ptr rg 4 g3 0 0), (5, .int .i64 i)]) (stL S rg [(1, .arr 3 [eDiagram d], g1), (2, .arr 3 [.agg [.nil, .nil, .int .i64 0]], g2), (4, .arr 3 [eDiagram x], g3)])
  refine qZ (qZ (rZ (mvZ (.int .i64 i) rfl (mvZ (eL (eL (AV.int .i64)) l) rfl (wZ rg (o_len td127 rfl (wZ rg (o_lss rfl rfl (nZ ?_)))))))))
  refine Vc.cond' rfl (fun hb => ?_) (fun hb => ?_)
  · replace h := h.1 hb
    refine Vc.skip' ?_
    refine qZ ?_
    refine Vc.blk ?_
    refine qZ ?_
    have hg1 := h.1
    replace h := h.2
    obtain ⟨r1, hc1, h⟩ := h
    refine Vc.drawn' mixed rg (usOf [(5, pc (eDiagram r1))]) (by kernel_rfl) ?_
    refine dL (E := ([(rg, 1)], [])) rfl rfl (by simp) (cfn) (o_loadBA (atL (k := 1) rfl) sz30 (by decide) ag30 rfl rfl (v := eDiagram d) rfl (dP rfl rfl (o_move (v := eL (eL (AV.int .i64)) l) rfl (dP rfl rfl (o_move (v := .int .i64 i) rfl (dP rfl rfl (o_idxL td127 sz25 (by decide) (fun _ => rfl) rfl rfl hg1 (dP rfl rfl (o_loadI1 sz25 ag25 rfl rfl (v := eL (AV.int .i64) (at' l i)) rfl ?_)))))))))
    refine dC (vs := [eDiagram d, eL (AV.int .i64) (at' l i)]) rfl (vl' vr (vl' vr (vn))) (fun _ => ref17_Reorder_ctr hc1 (fun _ hr => ⟨by rw [hr], rfl⟩)) rfl ?_
    refine dL (E := ([], [(rg, 6)])) rfl rfl (by simp) (cfa (by simp [apartE]) (cfn)) (o_alloc zav30 ok30 (kk := 3) rfl (fun g4 => (dL (E := ([], [(rg, 6)])) rfl rfl (by simp) (cfo (by kernel_rfl) (cfo (by kernel_rfl) (cfn))) (o_storeB (atL (k := 6) rfl) sz30 (by decide) rfl (w := eDiagram r1) rfl rfl rfl (v := eDiagram r1) rfl setL (dN (qZ (rZ (wZ rg (o_faP td30 rfl rfl (by rw [sz28]; decide) rfl ?_)))))))))
    refine wZ rg (o_loadB1 (atL (k := 6) rfl) sz28 ag28 rfl rfl (v := eL eDNode r1.Nodes) rfl (wZ rg (o_len td28 rfl (wZ rg (o_faP td30 rfl rfl (by rw [sz28]; decide) rfl (wZ rg (o_loadB1 (atL (k := 4) rfl) sz28 ag28 rfl rfl (v := eL eDNode x.Nodes) rfl (wZ rg (o_len td28 rfl (wZ rg (o_lss rfl rfl (nZ ?_))))))))))))
    refine Vc.cond' rfl (fun hb1 => ?_) (fun hb1 => ?_)
    · replace h := h.1 hb1
      refine rZ ?_
      refine wZ rg (o_loadBA (atL (k := 6) rfl) sz30 (by decide) ag30 rfl rfl (v := eDiagram r1) rfl (wZ rg (o_storeB (atL (k := 4) rfl) sz30 (by decide) rfl (w := eDiagram r1) rfl rfl rfl (v := eDiagram r1) rfl setL (nZ (rZ (mvZ (.int .i64 i) rfl (wZ rg (o_addG rfl rfl h.1 ?_))))))))
      replace h := h.2
      refine asZ (.int .i64 (i + 1)) rfl (nZ ?_)
      exact ⟨((i + 1), r1), (canon (fc vr (fc vr (fc vr (fc vr (fc vr (fn)))))) (sc rfl (sc rfl (sc rfl (sn))))), h⟩
    replace h := h.2 hb1
    refine Vc.skip' ?_
    refine rZ ?_
    refine mvZ (.int .i64 i) rfl (wZ rg (o_addG rfl rfl h.1 ?_))
    replace h := h.2
    refine asZ (.int .i64 (i + 1)) rfl (nZ ?_)
    exact ⟨((i + 1), x), (canon (fc vr (fc vr (fc vr (fc vr (fc vr (fn)))))) (sc rfl (sc rfl (sc rfl (sn))))), h⟩
  replace h := h.2 hb
  refine Vc.exit' (exB_self ?_)
  refine qZ (rZ (wZ rg (o_loadBA (atL (k := 4) rfl) sz30 (by decide) ag30 rfl rfl (v := eDiagram x) rfl (wZ rg (o_storeB (atL (k := 2) rfl) sz30 (by decide) rfl (w := eDiagram x) rfl rfl rfl (v := eDiagram x) rfl setL (nZ ?_))))))
  refine Vc.ret' ?_
  refine res_cellA (atL (k := 2) rfl) sz30 (by decide) ag30 rfl rfl (v := eDiagram x) rfl (res_nil ?_)
  show Gives _ (eDiagram x) _
  exact gives_out hrg (VW.refl _) (hQ _ h)
end Go.Proofs.Ytiamkdpljeemkaa
