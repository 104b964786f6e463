/- Walks of functions. Conditions: none. -/
import Derived.Test.YtonbnfgknijpoaaWR46
import Derived.Test.YtonbnfgknijpoaaGgTy
import Derived.Test.YtonbnfgknijpoaaGd
import Derived.Test.YtonbnfgknijpoaaKR46
namespace Go.Proofs.Ytonbnfgknijpoaa
open Go.Gg
set_option maxRecDepth 100000
theorem ref46_ors_ctr {events : Int} {phases : Int} {Q : List GNode → Prop} {S : St} {R : AV → St → Prop} (h : ref46_ors_W events phases Q) (hQ : ∀ r1, Q r1 → R (eL eNode r1) S) :
    Ctr Try.prog 131 [AV.int .i64 events, AV.int .i64 phases] S R := by
  unfold ref46_ors_W at h
  refine enterT Try.func131 rfl Try.ntmps131 Try.results131 (by kernel_rfl) (fun rg hrg => ?_)
  refine qZ (rZ (asZ .nil rfl (nZ (qZ (rZ (asZ .nil rfl (nZ (qZ (qZ (rZ (asZ (.int .i64 0) rfl (nZ ?_))))))))))))
  refine Vc.blk ?_
  refine Vc.mat 5 39 3 rfl (by decide) (fun g1 => ?_)
  obtain ⟨I, μ, h0, hI⟩ := h
  refine Vc.loop' (σ := ((Int × (List GNode)) × (Nat))) (fun y => I y.1) (fun y => μ y.1) (fun y => envOf [(0, .int .i64 events), (1, .int .i64 phases), (5, .sl 3 rg 39 y.2 0 y.1.2.length), (6, .int .i64 y.1.1)]) (fun y => stL S rg [(39, .arr 3 (List.map eNode y.1.2), y.2)]) ((0, []), g1) (canon (fc vr (fc vr (fc (VW.slen (by first | rfl | omega | (simp only [go_sem] <;> omega))) (fc vr (fn))))) (sc rfl (sn))) h0 (fun y h => ?_)
  obtain ⟨⟨i, out⟩, g2⟩ := y
  replace h := hI (i, out) h
  show Vc _ _ _ _ (envOf [(0, .int .i64 events), (1, .int .i64 phases), (5, .sl 3 rg 39 g2 0 out.length), (6, .int .i64 i)]) (stL S rg [(39, .arr 3 (List.map eNode out), g2)])
  refine qZ (qZ (rZ (mvZ (.int .i64 i) rfl (mvZ (.int .i64 events) rfl (wZ rg (o_lss rfl rfl (nZ ?_)))))))
  refine Vc.cond' rfl (fun hb => ?_) (fun hb => ?_)
  · replace h := h.1 hb
    refine Vc.skip' ?_
    refine qZ ?_
    refine Vc.blk ?_
    refine qZ (rZ (asZ (.int .i64 1) rfl (nZ ?_)))
    refine Vc.blk ?_
    obtain ⟨I, μ, h0, hI⟩ := h
    refine Vc.loop' (σ := ((Int × (List GNode)) × (Nat))) (fun y => I y.1) (fun y => μ y.1) (fun y => envOf [(0, .int .i64 events), (1, .int .i64 phases), (5, .sl 3 rg 39 y.2 0 y.1.2.length), (6, .int .i64 i), (7, .int .i64 y.1.1)]) (fun y => stL S rg [(39, .arr 3 (List.map eNode y.1.2), y.2)]) ((1, out), g2) (canon (fc vr (fc vr (fc vr (fc vr (fc vr (fn)))))) (sc rfl (sn))) h0 (fun y h => ?_)
    obtain ⟨⟨j, out1⟩, g3⟩ := y
    replace h := hI (j, out1) h
    show Vc _ _ _ _ (envOf [(0, .int .i64 events), (1, .int .i64 phases), (5, .sl 3 rg 39 g3 0 out1.length), (6, .int .i64 i), (7, .int .i64 j)]) (stL S rg [(39, .arr 3 (List.map eNode out1), g3)])
    refine qZ (qZ (rZ (mvZ (.int .i64 j) rfl (mvZ (.int .i64 phases) rfl (wZ rg (o_lss rfl rfl (nZ ?_)))))))
    refine Vc.cond' rfl (fun hb1 => ?_) (fun hb1 => ?_)
    · replace h := h.1 hb1
      refine Vc.skip' ?_
      refine qZ ?_
      refine Vc.blk ?_
      refine qZ (rZ (wZ rg (o_build td78 zav78 bok78 szs78 sz78 (ps := [(0, .int .i64 3)]) rfl rfl (v := .agg [.int .i64 3, .int .i64 0, .nil]) rfl (wZ rg (o_alloc zav78 ok78 (kk := 3) rfl (fun g4 => (wZ rg (o_storeB (atL (k := 8) rfl) sz78 (by decide) rfl (w := .agg [.int .i64 3, .int .i64 0, .nil]) rfl rfl rfl (v := .agg [.int .i64 3, .int .i64 0, .nil]) rfl setL (nZ (qZ (qZ (rZ ?_))))))))))))
      refine asZ (.int .i64 0) rfl (nZ ?_)
      refine Vc.blk ?_
      refine Vc.matB 8 2 34 1 (b := fun g5 => .agg [.int .i64 3, .int .i64 0, .sl 1 rg 34 g5 0 0]) rfl rfl (by decide) (by decide) rfl (fun g5 => ?_)
      obtain ⟨I, μ, h0, hI⟩ := h
      refine Vc.loop' (σ := ((Int × (List Int)) × (Nat))) (fun y => I y.1) (fun y => μ y.1) (fun y => envOf [(0, .int .i64 events), (1, .int .i64 phases), (5, .sl 3 rg 39 g3 0 out1.length), (6, .int .i64 i), (7, .int .i64 j), (8, .ptr rg 8 g4 0 0), (9, .int .i64 y.1.1)]) (fun y => stL S rg [(8, .arr 3 [.agg [.int .i64 3, .int .i64 0, .sl 1 rg 34 y.2 0 y.1.2.length]], g4), (34, .arr 1 (List.map (AV.int .i64) y.1.2), y.2), (39, .arr 3 (List.map eNode out1), g3)]) ((0, []), g5) (EWk.trans (EWk.ow (k := 8) (o' := .arr 3 [.agg [.int .i64 3, .int .i64 0, .sl 1 rg 34 g5 0 ([].length)]]) rfl (OW.one (VWL.vwc (vl' vr (vl' vr (vl' (VW.slen (by first | rfl | omega | (simp only [go_sem] <;> omega))) (vn))))))) (canon (fc vr (fc vr (fc vr (fc vr (fc vr (fc vr (fc vr (fn)))))))) (sc rfl (sc rfl (sc rfl (sn)))))) h0 (fun y h => ?_)
      obtain ⟨⟨k1, x⟩, g6⟩ := y
      replace h := hI (k1, x) h
      show Vc _ _ _ _ (envOf [(0, .int .i64 events), (1, .int .i64 phases), (5, .sl 3 rg 39 g3 0 out1.length), (6, .int .i64 i), (7, .int .i64 j), (8, .ptr rg 8 g4 0 0), (9, .int .i64 k1)]) (stL S rg [(8, .arr 3 [.agg [.int .i64 3, .int .i64 0, .sl 1 rg 34 g6 0 x.length]], g4), (34, .arr 1 (List.map (AV.int .i64) x), g6), (39, .arr 3 (List.map eNode out1), g3)])
      refine qZ (qZ (rZ (mvZ (.int .i64 k1) rfl (mvZ (.int .i64 j) rfl (wZ rg (o_leq rfl rfl (nZ ?_)))))))
      refine Vc.cond' rfl (fun hb2 => ?_) (fun hb2 => ?_)
      · replace h := h.1 hb2
        refine Vc.skip' ?_
        refine qZ ?_
        refine Vc.blk ?_
        refine rZ ?_
        refine wZ rg (o_faP td78 rfl rfl (by rw [sz76]; decide) rfl (wZ rg (o_loadB1 (atL (k := 8) rfl) sz76 ag76 rfl rfl (v := .sl 1 rg 34 g6 0 x.length) rfl (mvZ (.int .i64 i) rfl (mvZ (.int .i64 phases) rfl (wZ rg (o_mulG rfl rfl h.1 ?_)))))))
        replace h := h.2
        refine mvZ (.int .i64 k1) rfl (wZ rg (o_addG rfl rfl h.1 ?_))
        replace h := h.2
        refine wZ rg (o_bslice td76 ok3 zav3 (es := [.int .i64 ((i * phases) + k1)]) rfl (kk := 1) rfl rfl rfl rfl rfl rfl (fun g7 => ?_))
        refine wZ rg (o_appR td76 bts3 ok3 zav3 (es := x) (xs := [((i * phases) + k1)]) (enc := AV.int .i64) (atL (k := 34) rfl) (by first | rfl | omega | (simp only [go_sem] <;> omega)) (view_rowE (atL (k := 33) rfl) (by first | rfl | omega | (simp only [go_sem] <;> omega))) (kk := 1) rfl rfl (fun _ => rfl) (fun _ => rfl) h.1 rfl (fun _ => setL) (fun g8 => ?_))
        replace h := h.2
        refine wZ rg (o_faP td78 rfl rfl (by rw [sz76]; decide) rfl (wZ rg (o_storeB (atL (k := 8) rfl) sz76 (by decide) rfl (w := .sl 1 rg 34 g8 0 ((x ++ [((i * phases) + k1)]).length)) rfl rfl rfl (v := .agg [.int .i64 3, .int .i64 0, .sl 1 rg 34 g8 0 ((x ++ [((i * phases) + k1)]).length)]) rfl setL (nZ (rZ (mvZ (.int .i64 k1) rfl (wZ rg (o_addG rfl rfl h.1 ?_))))))))
        replace h := h.2
        refine asZ (.int .i64 (k1 + 1)) rfl (nZ ?_)
        exact ⟨(((k1 + 1), (x ++ [((i * phases) + k1)])), g8), (canon (fc vr (fc vr (fc vr (fc vr (fc vr (fc vr (fc vr (fn)))))))) (sc rfl (sc rfl (sc rfl (sn))))), h⟩
      replace h := h.2 hb2
      refine Vc.exit' (exB_self ?_)
      refine rZ ?_
      refine mvZ (.sl 3 rg 39 g3 0 out1.length) rfl (wZ rg (o_loadBA (atL (k := 8) rfl) sz78 (by decide) ag78 rfl rfl (v := .agg [.int .i64 3, .int .i64 0, .sl 1 rg 34 g6 0 x.length]) rfl ?_))
      refine Wl.wk (canon_freeze (k := 34) (xs := List.map (AV.int .i64) x) rfl (es := [(0, .int .i64 events), (1, .int .i64 phases), (6, .int .i64 i), (7, .int .i64 j), (36, .sl 3 rg 39 g3 0 out1.length), (37, .agg [.int .i64 3, .int .i64 0, eL (AV.int .i64) x])]) (fc vr (fc vr (fc vr (fc vr (fc (frz_ne rfl) (fc (VW.aggL (vl' vr (vl' vr (vl' (frz_full rfl) (vn))))) (fn))))))) (m := [(39, .arr 3 (List.map eNode out1), g3)]) (sc rfl (sn))) ?_
      refine wZ rg (o_bslice td68 ok78 zav78 (es := [.agg [.int .i64 3, .int .i64 0, eL (AV.int .i64) x]]) rfl (kk := 3) rfl rfl rfl rfl rfl rfl (fun g10 => ?_))
      refine wZ rg (o_appR td68 bts78 ok78 zav78 (es := out1) (xs := [(⟨3, 0, x⟩ : GNode)]) (enc := eNode) (atL (k := 39) rfl) (by first | rfl | omega | (simp only [go_sem] <;> omega)) (view_rowE (atL (k := 38) rfl) (by first | rfl | omega | (simp only [go_sem] <;> omega))) (kk := 3) rfl rfl (fun _ => rfl) (fun _ => rfl) h.1 rfl (fun _ => setL) (fun g11 => ?_))
      replace h := h.2
      refine asZ (.sl 3 rg 39 g11 0 ((out1 ++ [(⟨3, 0, x⟩ : GNode)]).length)) rfl (nZ (rZ (mvZ (.int .i64 j) rfl (wZ rg (o_addG rfl rfl h.1 ?_)))))
      replace h := h.2
      refine asZ (.int .i64 (j + 1)) rfl (nZ ?_)
      exact ⟨(((j + 1), (out1 ++ [(⟨3, 0, x⟩ : GNode)])), g11), (canon (fc vr (fc vr (fc vr (fc vr (fc vr (fn)))))) (sc rfl (sn))), h⟩
    replace h := h.2 hb1
    refine Vc.exit' (exB_self ?_)
    refine rZ ?_
    refine mvZ (.int .i64 i) rfl (wZ rg (o_addG rfl rfl h.1 ?_))
    replace h := h.2
    refine asZ (.int .i64 (i + 1)) rfl (nZ ?_)
    exact ⟨(((i + 1), out1), g3), (canon (fc vr (fc vr (fc vr (fc vr (fn))))) (sc rfl (sn))), h⟩
  replace h := h.2 hb
  refine Vc.exit' (exB_self ?_)
  refine qZ (rZ (mvZ (.sl 3 rg 39 g2 0 out.length) rfl (asZ (.sl 3 rg 39 g2 0 out.length) rfl (nZ ?_))))
  refine Vc.ret' ?_
  refine res_tmp (v := .sl 3 rg 39 g2 0 out.length) rfl (res_nil ?_)
  show Gives _ (.sl 3 rg 39 g2 0 out.length) _
  refine gives_freeze (k := 39) (xs := List.map eNode out) rfl (v' := eL eNode out) (frz_full rfl) ?_
  exact gives_out hrg (VW.refl _) (hQ _ h)
theorem ref46_ors_ctrO {events : Int} {phases : Int} (q k : Nat) {Q : List GNode → Prop} {S : St} {R : AV → St → Prop} (h : ref46_ors_W events phases Q) (hQ : ∀ l g, Q l → R (.sl 3 q k g 0 l.length) (S.set q k (.arr 3 (List.map eNode l)) g)) :
    Ctr Try.prog 131 [AV.int .i64 events, AV.int .i64 phases] S R := by
  unfold ref46_ors_W at h
  refine enterT Try.func131 rfl Try.ntmps131 Try.results131 (by kernel_rfl) (fun rg hrg => ?_)
  refine qZ (rZ (asZ .nil rfl (nZ (qZ (rZ (asZ .nil rfl (nZ (qZ (qZ (rZ (asZ (.int .i64 0) rfl (nZ ?_))))))))))))
  refine Vc.blk ?_
  refine Vc.mat 5 39 3 rfl (by decide) (fun g1 => ?_)
  obtain ⟨I, μ, h0, hI⟩ := h
  refine Vc.loop' (σ := ((Int × (List GNode)) × (Nat))) (fun y => I y.1) (fun y => μ y.1) (fun y => envOf [(0, .int .i64 events), (1, .int .i64 phases), (5, .sl 3 rg 39 y.2 0 y.1.2.length), (6, .int .i64 y.1.1)]) (fun y => stL S rg [(39, .arr 3 (List.map eNode y.1.2), y.2)]) ((0, []), g1) (canon (fc vr (fc vr (fc (VW.slen (by first | rfl | omega | (simp only [go_sem] <;> omega))) (fc vr (fn))))) (sc rfl (sn))) h0 (fun y h => ?_)
  obtain ⟨⟨i, out⟩, g2⟩ := y
  replace h := hI (i, out) h
  show Vc _ _ _ _ (envOf [(0, .int .i64 events), (1, .int .i64 phases), (5, .sl 3 rg 39 g2 0 out.length), (6, .int .i64 i)]) (stL S rg [(39, .arr 3 (List.map eNode out), g2)])
  refine qZ (qZ (rZ (mvZ (.int .i64 i) rfl (mvZ (.int .i64 events) rfl (wZ rg (o_lss rfl rfl (nZ ?_)))))))
  refine Vc.cond' rfl (fun hb => ?_) (fun hb => ?_)
  · replace h := h.1 hb
    refine Vc.skip' ?_
    refine qZ ?_
    refine Vc.blk ?_
    refine qZ (rZ (asZ (.int .i64 1) rfl (nZ ?_)))
    refine Vc.blk ?_
    obtain ⟨I, μ, h0, hI⟩ := h
    refine Vc.loop' (σ := ((Int × (List GNode)) × (Nat))) (fun y => I y.1) (fun y => μ y.1) (fun y => envOf [(0, .int .i64 events), (1, .int .i64 phases), (5, .sl 3 rg 39 y.2 0 y.1.2.length), (6, .int .i64 i), (7, .int .i64 y.1.1)]) (fun y => stL S rg [(39, .arr 3 (List.map eNode y.1.2), y.2)]) ((1, out), g2) (canon (fc vr (fc vr (fc vr (fc vr (fc vr (fn)))))) (sc rfl (sn))) h0 (fun y h => ?_)
    obtain ⟨⟨j, out1⟩, g3⟩ := y
    replace h := hI (j, out1) h
    show Vc _ _ _ _ (envOf [(0, .int .i64 events), (1, .int .i64 phases), (5, .sl 3 rg 39 g3 0 out1.length), (6, .int .i64 i), (7, .int .i64 j)]) (stL S rg [(39, .arr 3 (List.map eNode out1), g3)])
    refine qZ (qZ (rZ (mvZ (.int .i64 j) rfl (mvZ (.int .i64 phases) rfl (wZ rg (o_lss rfl rfl (nZ ?_)))))))
    refine Vc.cond' rfl (fun hb1 => ?_) (fun hb1 => ?_)
    · replace h := h.1 hb1
      refine Vc.skip' ?_
      refine qZ ?_
      refine Vc.blk ?_
      refine qZ (rZ (wZ rg (o_build td78 zav78 bok78 szs78 sz78 (ps := [(0, .int .i64 3)]) rfl rfl (v := .agg [.int .i64 3, .int .i64 0, .nil]) rfl (wZ rg (o_alloc zav78 ok78 (kk := 3) rfl (fun g4 => (wZ rg (o_storeB (atL (k := 8) rfl) sz78 (by decide) rfl (w := .agg [.int .i64 3, .int .i64 0, .nil]) rfl rfl rfl (v := .agg [.int .i64 3, .int .i64 0, .nil]) rfl setL (nZ (qZ (qZ (rZ ?_))))))))))))
      refine asZ (.int .i64 0) rfl (nZ ?_)
      refine Vc.blk ?_
      refine Vc.matB 8 2 34 1 (b := fun g5 => .agg [.int .i64 3, .int .i64 0, .sl 1 rg 34 g5 0 0]) rfl rfl (by decide) (by decide) rfl (fun g5 => ?_)
      obtain ⟨I, μ, h0, hI⟩ := h
      refine Vc.loop' (σ := ((Int × (List Int)) × (Nat))) (fun y => I y.1) (fun y => μ y.1) (fun y => envOf [(0, .int .i64 events), (1, .int .i64 phases), (5, .sl 3 rg 39 g3 0 out1.length), (6, .int .i64 i), (7, .int .i64 j), (8, .ptr rg 8 g4 0 0), (9, .int .i64 y.1.1)]) (fun y => stL S rg [(8, .arr 3 [.agg [.int .i64 3, .int .i64 0, .sl 1 rg 34 y.2 0 y.1.2.length]], g4), (34, .arr 1 (List.map (AV.int .i64) y.1.2), y.2), (39, .arr 3 (List.map eNode out1), g3)]) ((0, []), g5) (EWk.trans (EWk.ow (k := 8) (o' := .arr 3 [.agg [.int .i64 3, .int .i64 0, .sl 1 rg 34 g5 0 ([].length)]]) rfl (OW.one (VWL.vwc (vl' vr (vl' vr (vl' (VW.slen (by first | rfl | omega | (simp only [go_sem] <;> omega))) (vn))))))) (canon (fc vr (fc vr (fc vr (fc vr (fc vr (fc vr (fc vr (fn)))))))) (sc rfl (sc rfl (sc rfl (sn)))))) h0 (fun y h => ?_)
      obtain ⟨⟨k1, x⟩, g6⟩ := y
      replace h := hI (k1, x) h
      show Vc _ _ _ _ (envOf [(0, .int .i64 events), (1, .int .i64 phases), (5, .sl 3 rg 39 g3 0 out1.length), (6, .int .i64 i), (7, .int .i64 j), (8, .ptr rg 8 g4 0 0), (9, .int .i64 k1)]) (stL S rg [(8, .arr 3 [.agg [.int .i64 3, .int .i64 0, .sl 1 rg 34 g6 0 x.length]], g4), (34, .arr 1 (List.map (AV.int .i64) x), g6), (39, .arr 3 (List.map eNode out1), g3)])
      refine qZ (qZ (rZ (mvZ (.int .i64 k1) rfl (mvZ (.int .i64 j) rfl (wZ rg (o_leq rfl rfl (nZ ?_)))))))
      refine Vc.cond' rfl (fun hb2 => ?_) (fun hb2 => ?_)
      · replace h := h.1 hb2
        refine Vc.skip' ?_
        refine qZ ?_
        refine Vc.blk ?_
        refine rZ ?_
        refine wZ rg (o_faP td78 rfl rfl (by rw [sz76]; decide) rfl (wZ rg (o_loadB1 (atL (k := 8) rfl) sz76 ag76 rfl rfl (v := .sl 1 rg 34 g6 0 x.length) rfl (mvZ (.int .i64 i) rfl (mvZ (.int .i64 phases) rfl (wZ rg (o_mulG rfl rfl h.1 ?_)))))))
        replace h := h.2
        refine mvZ (.int .i64 k1) rfl (wZ rg (o_addG rfl rfl h.1 ?_))
        replace h := h.2
        refine wZ rg (o_bslice td76 ok3 zav3 (es := [.int .i64 ((i * phases) + k1)]) rfl (kk := 1) rfl rfl rfl rfl rfl rfl (fun g7 => ?_))
        refine wZ rg (o_appR td76 bts3 ok3 zav3 (es := x) (xs := [((i * phases) + k1)]) (enc := AV.int .i64) (atL (k := 34) rfl) (by first | rfl | omega | (simp only [go_sem] <;> omega)) (view_rowE (atL (k := 33) rfl) (by first | rfl | omega | (simp only [go_sem] <;> omega))) (kk := 1) rfl rfl (fun _ => rfl) (fun _ => rfl) h.1 rfl (fun _ => setL) (fun g8 => ?_))
        replace h := h.2
        refine wZ rg (o_faP td78 rfl rfl (by rw [sz76]; decide) rfl (wZ rg (o_storeB (atL (k := 8) rfl) sz76 (by decide) rfl (w := .sl 1 rg 34 g8 0 ((x ++ [((i * phases) + k1)]).length)) rfl rfl rfl (v := .agg [.int .i64 3, .int .i64 0, .sl 1 rg 34 g8 0 ((x ++ [((i * phases) + k1)]).length)]) rfl setL (nZ (rZ (mvZ (.int .i64 k1) rfl (wZ rg (o_addG rfl rfl h.1 ?_))))))))
        replace h := h.2
        refine asZ (.int .i64 (k1 + 1)) rfl (nZ ?_)
        exact ⟨(((k1 + 1), (x ++ [((i * phases) + k1)])), g8), (canon (fc vr (fc vr (fc vr (fc vr (fc vr (fc vr (fc vr (fn)))))))) (sc rfl (sc rfl (sc rfl (sn))))), h⟩
      replace h := h.2 hb2
      refine Vc.exit' (exB_self ?_)
      refine rZ ?_
      refine mvZ (.sl 3 rg 39 g3 0 out1.length) rfl (wZ rg (o_loadBA (atL (k := 8) rfl) sz78 (by decide) ag78 rfl rfl (v := .agg [.int .i64 3, .int .i64 0, .sl 1 rg 34 g6 0 x.length]) rfl ?_))
      refine Wl.wk (canon_freeze (k := 34) (xs := List.map (AV.int .i64) x) rfl (es := [(0, .int .i64 events), (1, .int .i64 phases), (6, .int .i64 i), (7, .int .i64 j), (36, .sl 3 rg 39 g3 0 out1.length), (37, .agg [.int .i64 3, .int .i64 0, eL (AV.int .i64) x])]) (fc vr (fc vr (fc vr (fc vr (fc (frz_ne rfl) (fc (VW.aggL (vl' vr (vl' vr (vl' (frz_full rfl) (vn))))) (fn))))))) (m := [(39, .arr 3 (List.map eNode out1), g3)]) (sc rfl (sn))) ?_
      refine wZ rg (o_bslice td68 ok78 zav78 (es := [.agg [.int .i64 3, .int .i64 0, eL (AV.int .i64) x]]) rfl (kk := 3) rfl rfl rfl rfl rfl rfl (fun g10 => ?_))
      refine wZ rg (o_appR td68 bts78 ok78 zav78 (es := out1) (xs := [(⟨3, 0, x⟩ : GNode)]) (enc := eNode) (atL (k := 39) rfl) (by first | rfl | omega | (simp only [go_sem] <;> omega)) (view_rowE (atL (k := 38) rfl) (by first | rfl | omega | (simp only [go_sem] <;> omega))) (kk := 3) rfl rfl (fun _ => rfl) (fun _ => rfl) h.1 rfl (fun _ => setL) (fun g11 => ?_))
      replace h := h.2
      refine asZ (.sl 3 rg 39 g11 0 ((out1 ++ [(⟨3, 0, x⟩ : GNode)]).length)) rfl (nZ (rZ (mvZ (.int .i64 j) rfl (wZ rg (o_addG rfl rfl h.1 ?_)))))
      replace h := h.2
      refine asZ (.int .i64 (j + 1)) rfl (nZ ?_)
      exact ⟨(((j + 1), (out1 ++ [(⟨3, 0, x⟩ : GNode)])), g11), (canon (fc vr (fc vr (fc vr (fc vr (fc vr (fn)))))) (sc rfl (sn))), h⟩
    replace h := h.2 hb1
    refine Vc.exit' (exB_self ?_)
    refine rZ ?_
    refine mvZ (.int .i64 i) rfl (wZ rg (o_addG rfl rfl h.1 ?_))
    replace h := h.2
    refine asZ (.int .i64 (i + 1)) rfl (nZ ?_)
    exact ⟨(((i + 1), out1), g3), (canon (fc vr (fc vr (fc vr (fc vr (fn))))) (sc rfl (sn))), h⟩
  replace h := h.2 hb
  refine Vc.exit' (exB_self ?_)
  refine qZ (rZ (mvZ (.sl 3 rg 39 g2 0 out.length) rfl (asZ (.sl 3 rg 39 g2 0 out.length) rfl (nZ ?_))))
  refine Vc.ret' ?_
  refine res_tmp (v := .sl 3 rg 39 g2 0 out.length) rfl (res_nil ?_)
  show Gives _ (.sl 3 rg 39 g2 0 out.length) _
  exact gives_own q k hrg rfl (fun g' => hQ _ g' h)
theorem ref46_moved_ctr {m : GMission} {j : Int} {arg : Int} {first : Int} {Q : Int → Prop} {S : St} {R : AV → St → Prop} (h : ref46_moved_W m j arg first Q) (hQ : ∀ r1, Q r1 → R (AV.int .i64 r1) S) :
    Ctr Try.prog 132 [eMission m, AV.int .i64 j, AV.int .i64 arg, AV.int .i64 first] S R := by
  unfold ref46_moved_W at h
  refine enterT Try.func132 rfl Try.ntmps132 Try.results132 (by kernel_rfl) (fun rg hrg => ?_)
  refine qZ (rZ (wZ rg (o_box (v := eMission m) rfl rfl (kk := 2) rfl (by decide) (fun g1 => (asZ (.int .i64 0) rfl (nZ (qZ ?_)))))))
  obtain ⟨n, hc, h⟩ := h
  refine Vc.drawn' mixed rg (usOf [(1, pc (.int .i64 n))]) (by kernel_rfl) ?_
  refine dL (E := ([(rg, 4)], [])) rfl rfl (by simp) (cfn) (o_loadBA (atL (k := 4) rfl) sz94 (by decide) ag94 rfl rfl (v := eMission m) rfl ?_)
  refine dC (vs := [eMission m]) rfl (vl' vr (vn)) (fun _ => ref46_Events_ctr hc (fun _ hr => ⟨by rw [hr], rfl⟩)) rfl ?_
  refine dP rfl rfl (o_faP td94 rfl rfl (by rw [sz91]; decide) rfl (dL (E := ([(rg, 4)], [])) rfl rfl (by simp) (cfa (by simp [apartE]) (cfn)) (o_loadB1 (atL (k := 4) rfl) sz91 ag91 rfl rfl (v := eL eFormula m.Phases) rfl (dP rfl rfl (o_len td91 rfl (dP rfl rfl (o_assign (v := .int .i64 n) rfl (dP rfl rfl (o_assign (v := .int .i64 (m.Phases.length : Int)) rfl (dN (qZ (qZ (rZ ?_)))))))))))))
  refine mvZ (.int .i64 arg) rfl (mvZ (.int .i64 n) rfl (wZ rg (o_geq rfl rfl (nZ ?_))))
  refine Vc.cond' rfl (fun hb => ?_) (fun hb => ?_)
  · replace h := h.1 hb
    refine qZ (rZ (mvZ (.int .i64 first) rfl (mvZ (.int .i64 arg) rfl (wZ rg (o_addG rfl rfl h.1 ?_)))))
    replace h := h.2
    refine mvZ (.int .i64 n) rfl (wZ rg (o_subG rfl rfl h.1 ?_))
    replace h := h.2
    refine asZ (.int .i64 ((first + arg) - n)) rfl (nZ ?_)
    refine Vc.ret' ?_
    refine res_tmp (v := .int .i64 ((first + arg) - n)) rfl (res_nil ?_)
    show Gives _ (.int .i64 ((first + arg) - n)) _
    exact gives_out hrg (VW.refl _) (hQ _ h)
  replace h := h.2 hb
  refine Vc.skip' ?_
  refine qZ (qZ (rZ (mvZ (.int .i64 j) rfl (wZ rg (o_eql rfl rfl (nZ ?_))))))
  refine Vc.cond' rfl (fun hb1 => ?_) (fun hb1 => ?_)
  · replace h := h.1 hb1
    refine qZ (rZ (mvZ (.int .i64 arg) rfl (mvZ (.int .i64 (m.Phases.length : Int)) rfl (wZ rg (o_mulG rfl rfl h.1 ?_)))))
    replace h := h.2
    refine asZ (.int .i64 (arg * (m.Phases.length : Int))) rfl (nZ ?_)
    refine Vc.ret' ?_
    refine res_tmp (v := .int .i64 (arg * (m.Phases.length : Int))) rfl (res_nil ?_)
    show Gives _ (.int .i64 (arg * (m.Phases.length : Int))) _
    exact gives_out hrg (VW.refl _) (hQ _ h)
  replace h := h.2 hb1
  refine Vc.skip' ?_
  refine qZ (rZ (mvZ (.int .i64 n) rfl (mvZ (.int .i64 (m.Phases.length : Int)) rfl (wZ rg (o_mulG rfl rfl h.1 ?_)))))
  replace h := h.2
  refine mvZ (.int .i64 arg) rfl (mvZ (.int .i64 (m.Phases.length : Int)) rfl (wZ rg (o_subG rfl rfl h.1 ?_)))
  replace h := h.2
  refine wZ rg (o_mulG rfl rfl h.1 ?_)
  replace h := h.2
  refine wZ rg (o_addG rfl rfl h.1 ?_)
  replace h := h.2
  refine mvZ (.int .i64 j) rfl (wZ rg (o_addG rfl rfl h.1 ?_))
  replace h := h.2
  refine wZ rg (o_subG rfl rfl h.1 ?_)
  replace h := h.2
  refine asZ (.int .i64 ((((n * (m.Phases.length : Int)) + (arg * ((m.Phases.length : Int) - 1))) + j) - 1)) rfl (nZ ?_)
  refine Vc.ret' ?_
  refine res_tmp (v := .int .i64 ((((n * (m.Phases.length : Int)) + (arg * ((m.Phases.length : Int) - 1))) + j) - 1)) rfl (res_nil ?_)
  show Gives _ (.int .i64 ((((n * (m.Phases.length : Int)) + (arg * ((m.Phases.length : Int) - 1))) + j) - 1)) _
  exact gives_out hrg (VW.refl _) (hQ _ h)
theorem ref46_Unfold_ctr {m : GMission} {Q : GFormula → List GRat → Int → Prop} {S : St} {R : AV → St → Prop} (h : ref46_Unfold_W m Q) (hQ : ∀ r1 r2 r3, Q r1 r2 r3 → R (.tuple [eFormula r1, eL eRat r2, AV.int .i64 r3]) S) :
    Ctr Try.prog 63 [eMission m] S R := by
  unfold ref46_Unfold_W at h
  refine enterT Try.func63 rfl Try.ntmps63 Try.results63 (by kernel_rfl) (fun rg hrg => ?_)
  refine qZ (rZ (wZ rg (o_box (v := eMission m) rfl rfl (kk := 2) rfl (by decide) (fun g1 => (wZ rg (o_alloc zav70 ok70 (kk := 3) rfl (fun g2 => (asZ .nil rfl (asZ (.int .i64 0) rfl (nZ (qZ ?_)))))))))))
  obtain ⟨n, hc, h⟩ := h
  refine Vc.drawn' mixed rg (usOf [(1, pc (.int .i64 n))]) (by kernel_rfl) ?_
  refine dL (E := ([(rg, 1)], [])) rfl rfl (by simp) (cfn) (o_loadBA (atL (k := 1) rfl) sz94 (by decide) ag94 rfl rfl (v := eMission m) rfl ?_)
  refine dC (vs := [eMission m]) rfl (vl' vr (vn)) (fun _ => ref46_Events_ctr hc (fun _ hr => ⟨by rw [hr], rfl⟩)) rfl ?_
  refine dP rfl rfl (o_faP td94 rfl rfl (by rw [sz91]; decide) rfl (dL (E := ([(rg, 1)], [])) rfl rfl (by simp) (cfa (by simp [apartE]) (cfn)) (o_loadB1 (atL (k := 1) rfl) sz91 ag91 rfl rfl (v := eL eFormula m.Phases) rfl (dP rfl rfl (o_len td91 rfl (dP rfl rfl (o_assign (v := .int .i64 n) rfl (dP rfl rfl (o_assign (v := .int .i64 (m.Phases.length : Int)) rfl (dN (qZ (rZ (mvZ (.int .i64 n) rfl ?_)))))))))))))
  refine mvZ (.int .i64 (m.Phases.length : Int)) rfl (wZ rg (o_mulG rfl rfl h.1 ?_))
  replace h := h.2
  refine mvZ (.int .i64 n) rfl (mvZ (.int .i64 (m.Phases.length : Int)) rfl (wZ rg (o_call (us := [AV.int .i64 n, AV.int .i64 (m.Phases.length : Int)]) rfl (vl' vr (vl' vr (vn))) (ref46_ors_ctrO rg 27 h fun r g3 h => ?_))))
  refine Wl.eqS setL ?_
  refine wZ rg (o_build td70 zav70 bok70 szs70 sz70 (ps := [(0, .int .i64 (n * (m.Phases.length : Int))), (1, .sl 3 rg 27 g3 0 r.length)]) rfl rfl (v := .agg [.int .i64 (n * (m.Phases.length : Int)), .sl 3 rg 27 g3 0 r.length, .int .i64 0]) rfl (wZ rg (o_alloc zav70 ok70 (kk := 3) rfl (fun g4 => ?_))))
  refine wZ rg (o_storeB (atL (k := 7) rfl) sz70 (by decide) rfl (w := .agg [.int .i64 (n * (m.Phases.length : Int)), .sl 3 rg 27 g3 0 r.length, .int .i64 0]) rfl rfl rfl (v := .agg [.int .i64 (n * (m.Phases.length : Int)), .sl 3 rg 27 g3 0 r.length, .int .i64 0]) rfl setL (nZ (qZ (rZ ?_))))
  refine wZ rg (o_build td78 zav78 bok78 szs78 sz78 (ps := [(0, .int .i64 3)]) rfl rfl (v := .agg [.int .i64 3, .int .i64 0, .nil]) rfl (wZ rg (o_alloc zav78 ok78 (kk := 3) rfl (fun g5 => (wZ rg (o_storeB (atL (k := 8) rfl) sz78 (by decide) rfl (w := .agg [.int .i64 3, .int .i64 0, .nil]) rfl rfl rfl (v := .agg [.int .i64 3, .int .i64 0, .nil]) rfl setL (nZ (qZ (qZ (rZ (asZ (.int .i64 0) rfl (nZ ?_))))))))))))
  refine Vc.blk ?_
  refine Vc.matB 8 2 110 1 (b := fun g6 => .agg [.int .i64 3, .int .i64 0, .sl 1 rg 110 g6 0 0]) rfl rfl (by decide) (by decide) rfl (fun g6 => ?_)
  obtain ⟨I, μ, h0, hI⟩ := h
  refine Vc.loop' (σ := ((Int × (List GNode) × (List Int)) × (Nat × Nat))) (fun y => I y.1) (fun y => μ y.1) (fun y => envOf [(1, .ptr rg 1 g1 0 0), (2, .ptr rg 2 g2 0 0), (5, .int .i64 n), (6, .int .i64 (m.Phases.length : Int)), (7, .ptr rg 7 g4 0 0), (8, .ptr rg 8 g5 0 0), (9, .int .i64 y.1.1)]) (fun y => stL S rg [(1, .arr 2 [eMission m], g1), (2, .arr 3 [.agg [.int .i64 0, .nil, .int .i64 0]], g2), (7, .arr 3 [.agg [.int .i64 (n * (m.Phases.length : Int)), .sl 3 rg 27 y.2.1 0 y.1.2.1.length, .int .i64 0]], g4), (8, .arr 3 [.agg [.int .i64 3, .int .i64 0, .sl 1 rg 110 y.2.2 0 y.1.2.2.length]], g5), (27, .arr 3 (List.map eNode y.1.2.1), y.2.1), (110, .arr 1 (List.map (AV.int .i64) y.1.2.2), y.2.2)]) ((0, r, []), (g3, g6)) (EWk.trans (EWk.ow (k := 8) (o' := .arr 3 [.agg [.int .i64 3, .int .i64 0, .sl 1 rg 110 g6 0 ([].length)]]) rfl (OW.one (VWL.vwc (vl' vr (vl' vr (vl' (VW.slen (by first | rfl | omega | (simp only [go_sem] <;> omega))) (vn))))))) (canon (fc vr (fc vr (fc vr (fc vr (fc vr (fc vr (fc vr (fn)))))))) (sc rfl (sc rfl (sc rfl (sc rfl (sc rfl (sc rfl (sn))))))))) h0 (fun y h => ?_)
  obtain ⟨⟨j, x, x1⟩, ⟨g7, g8⟩⟩ := y
  replace h := hI (j, x, x1) h
  show Vc _ _ _ _ (envOf [(1, .ptr rg 1 g1 0 0), (2, .ptr rg 2 g2 0 0), (5, .int .i64 n), (6, .int .i64 (m.Phases.length : Int)), (7, .ptr rg 7 g4 0 0), (8, .ptr rg 8 g5 0 0), (9, .int .i64 j)]) (stL S rg [(1, .arr 2 [eMission m], g1), (2, .arr 3 [.agg [.int .i64 0, .nil, .int .i64 0]], g2), (7, .arr 3 [.agg [.int .i64 (n * (m.Phases.length : Int)), .sl 3 rg 27 g7 0 x.length, .int .i64 0]], g4), (8, .arr 3 [.agg [.int .i64 3, .int .i64 0, .sl 1 rg 110 g8 0 x1.length]], g5), (27, .arr 3 (List.map eNode x), g7), (110, .arr 1 (List.map (AV.int .i64) x1), g8)])
  refine qZ (qZ (rZ (mvZ (.int .i64 j) rfl (mvZ (.int .i64 (m.Phases.length : Int)) rfl (wZ rg (o_lss rfl rfl (nZ ?_)))))))
  refine Vc.cond' rfl (fun hb => ?_) (fun hb => ?_)
  · replace h := h.1 hb
    refine Vc.skip' ?_
    refine qZ ?_
    refine Vc.blk ?_
    refine qZ ?_
    have hg := h.1
    replace h := h.2
    have hg1 := h.1
    replace h := h.2
    refine Vc.drawn' mixed rg (fun _ => jcr2) (by kernel_rfl) ?_
    refine dP rfl rfl (o_faP td94 rfl rfl (by rw [sz91]; decide) rfl (dL (E := ([(rg, 1)], [])) rfl rfl (by simp) (cfn) (o_loadB1 (atL (k := 1) rfl) sz91 ag91 rfl rfl (v := eL eFormula m.Phases) rfl (dP rfl rfl (o_move (v := .int .i64 j) rfl (dP rfl rfl (o_idxL td91 sz70 (by decide) (fun _ => rfl) rfl rfl hg (dP rfl rfl (o_loadIA sz70 (by decide) ag70 rfl rfl (v := eFormula (at' m.Phases j)) rfl ?_)))))))))
    refine dP rfl rfl (o_faP td70 rfl rfl (by rw [sz3]; decide) rfl (dL (E := ([(rg, 7)], [])) rfl rfl (by simp) (cfa (by simp [apartE]) (cfn)) (o_loadB1 (atL (k := 7) rfl) sz3 ag3 rfl rfl (v := .int .i64 (n * (m.Phases.length : Int))) rfl (dP rfl rfl (o_faP td70 rfl rfl (by rw [sz68]; decide) rfl ?_)))))
    refine dL (E := ([(rg, 7)], [])) rfl rfl (by simp) (cfa (by simp [apartE]) (cfa (by simp [apartE]) (cfn))) (o_loadB1 (atL (k := 7) rfl) sz68 ag68 rfl rfl (v := .sl 3 rg 27 g7 0 x.length) rfl (dP rfl rfl (o_lenR td68 rfl (dP rfl rfl (o_addG rfl rfl hg1 ?_)))))
    refine dL (E := ([], [(rg, 10)])) rfl rfl (by simp) (cfa (by simp [apartE]) (cfa (by simp [apartE]) (cfa (by simp [apartE]) (cfn)))) (o_alloc zav70 ok70 (kk := 3) rfl (fun g9 => ?_))
    refine dL (E := ([], [(rg, 10)])) rfl rfl (by simp) (cfo (by kernel_rfl) (cfa (by simp [apartE]) (cfa (by simp [apartE]) (cfo (by kernel_rfl) (cfn))))) (o_storeB (atL (k := 10) rfl) sz70 (by decide) rfl (w := eFormula (at' m.Phases j)) rfl rfl rfl (v := eFormula (at' m.Phases j)) rfl setL (dP rfl rfl (o_assign (v := .int .i64 ((n * (m.Phases.length : Int)) + (x.length : Int))) rfl (dN (qZ (qZ (rZ ?_)))))))
    refine asZ (.int .i64 0) rfl (nZ ?_)
    refine Vc.blk ?_
    obtain ⟨I, μ, h0, hI⟩ := h
    refine Vc.loop' (σ := ((Int × (List GNode)) × (Nat))) (fun y => I y.1) (fun y => μ y.1) (fun y => envOf [(1, .ptr rg 1 g1 0 0), (2, .ptr rg 2 g2 0 0), (5, .int .i64 n), (6, .int .i64 (m.Phases.length : Int)), (7, .ptr rg 7 g4 0 0), (8, .ptr rg 8 g5 0 0), (9, .int .i64 j), (10, .ptr rg 10 g9 0 0), (11, .int .i64 ((n * (m.Phases.length : Int)) + (x.length : Int))), (12, .int .i64 y.1.1)]) (fun y => stL S rg [(1, .arr 2 [eMission m], g1), (2, .arr 3 [.agg [.int .i64 0, .nil, .int .i64 0]], g2), (7, .arr 3 [.agg [.int .i64 (n * (m.Phases.length : Int)), .sl 3 rg 27 y.2 0 y.1.2.length, .int .i64 0]], g4), (8, .arr 3 [.agg [.int .i64 3, .int .i64 0, .sl 1 rg 110 g8 0 x1.length]], g5), (10, .arr 3 [eFormula (at' m.Phases j)], g9), (27, .arr 3 (List.map eNode y.1.2), y.2), (110, .arr 1 (List.map (AV.int .i64) x1), g8)]) ((0, x), g7) (canon (fc vr (fc vr (fc vr (fc vr (fc vr (fc vr (fc vr (fc vr (fc vr (fc vr (fn))))))))))) (sc rfl (sc rfl (sc rfl (sc rfl (sc rfl (sc rfl (sc rfl (sn))))))))) h0 (fun y h => ?_)
    obtain ⟨⟨i, x2⟩, g10⟩ := y
    replace h := hI (i, x2) h
    show Vc _ _ _ _ (envOf [(1, .ptr rg 1 g1 0 0), (2, .ptr rg 2 g2 0 0), (5, .int .i64 n), (6, .int .i64 (m.Phases.length : Int)), (7, .ptr rg 7 g4 0 0), (8, .ptr rg 8 g5 0 0), (9, .int .i64 j), (10, .ptr rg 10 g9 0 0), (11, .int .i64 ((n * (m.Phases.length : Int)) + (x.length : Int))), (12, .int .i64 i)]) (stL S rg [(1, .arr 2 [eMission m], g1), (2, .arr 3 [.agg [.int .i64 0, .nil, .int .i64 0]], g2), (7, .arr 3 [.agg [.int .i64 (n * (m.Phases.length : Int)), .sl 3 rg 27 g10 0 x2.length, .int .i64 0]], g4), (8, .arr 3 [.agg [.int .i64 3, .int .i64 0, .sl 1 rg 110 g8 0 x1.length]], g5), (10, .arr 3 [eFormula (at' m.Phases j)], g9), (27, .arr 3 (List.map eNode x2), g10), (110, .arr 1 (List.map (AV.int .i64) x1), g8)])
    refine qZ (qZ (rZ (mvZ (.int .i64 i) rfl (wZ rg (o_faP td70 rfl rfl (by rw [sz68]; decide) rfl (wZ rg (o_loadB1 (atL (k := 10) rfl) sz68 ag68 rfl rfl (v := eL eNode ((at' m.Phases j).Nodes)) rfl (wZ rg (o_len td68 rfl (wZ rg (o_lss rfl rfl (nZ ?_))))))))))))
    refine Vc.cond' rfl (fun hb1 => ?_) (fun hb1 => ?_)
    · replace h := h.1 hb1
      refine Vc.skip' ?_
      refine qZ ?_
      refine Vc.blk ?_
      refine qZ ?_
      have hg2 := h.1
      replace h := h.2
      have hg3 := h.1
      replace h := h.2
      refine Vc.drawn' mixed rg (fun _ => jcr2) (by kernel_rfl) ?_
      refine dP rfl rfl (o_faP td70 rfl rfl (by rw [sz68]; decide) rfl (dL (E := ([(rg, 10)], [])) rfl rfl (by simp) (cfn) (o_loadB1 (atL (k := 10) rfl) sz68 ag68 rfl rfl (v := eL eNode ((at' m.Phases j).Nodes)) rfl (dP rfl rfl (o_move (v := .int .i64 i) rfl (dP rfl rfl (o_idxL td68 sz78 (by decide) (fun _ => rfl) rfl rfl hg2 (dP rfl rfl (o_fa td78 rfl rfl (by rw [sz3]; decide) rfl rfl ?_)))))))))
      refine dP rfl rfl (o_loadI1 sz3 ag3 rfl rfl (v := .int .i64 ((at' ((at' m.Phases j).Nodes) i).Kind)) rfl (dP rfl rfl (o_faP td70 rfl rfl (by rw [sz68]; decide) rfl (dL (E := ([(rg, 10)], [])) rfl rfl (by simp) (cfa (by simp [apartE]) (cfn)) (o_loadB1 (atL (k := 10) rfl) sz68 ag68 rfl rfl (v := eL eNode ((at' m.Phases j).Nodes)) rfl (dP rfl rfl (o_move (v := .int .i64 i) rfl ?_)))))))
      refine dP rfl rfl (o_idxL td68 sz78 (by decide) (fun _ => rfl) rfl rfl hg3 (dP rfl rfl (o_fa td78 rfl rfl (by rw [sz3]; decide) rfl rfl (dP rfl rfl (o_loadI1 sz3 ag3 rfl rfl (v := .int .i64 ((at' ((at' m.Phases j).Nodes) i).K)) rfl ?_)))))
      refine dP rfl rfl (o_build td78 zav78 bok78 szs78 sz78 (ps := [(0, .int .i64 ((at' ((at' m.Phases j).Nodes) i).Kind)), (1, .int .i64 ((at' ((at' m.Phases j).Nodes) i).K))]) rfl rfl (v := .agg [.int .i64 ((at' ((at' m.Phases j).Nodes) i).Kind), .int .i64 ((at' ((at' m.Phases j).Nodes) i).K), .nil]) rfl ?_)
      refine dL (E := ([], [(rg, 13)])) rfl rfl (by simp) (cfa (by simp [apartE]) (cfa (by simp [apartE]) (cfn))) (o_alloc zav78 ok78 (kk := 3) rfl (fun g11 => ?_))
      refine dL (E := ([], [(rg, 13)])) rfl rfl (by simp) (cfo (by kernel_rfl) (cfo (by kernel_rfl) (cfo (by kernel_rfl) (cfn)))) (o_storeB (atL (k := 13) rfl) sz78 (by decide) rfl (w := .agg [.int .i64 ((at' ((at' m.Phases j).Nodes) i).Kind), .int .i64 ((at' ((at' m.Phases j).Nodes) i).K), .nil]) rfl rfl rfl (v := .agg [.int .i64 ((at' ((at' m.Phases j).Nodes) i).Kind), .int .i64 ((at' ((at' m.Phases j).Nodes) i).K), .nil]) rfl setL ?_)
      refine dN ?_
      refine qZ (qZ (rZ (asZ (.int .i64 0) rfl (nZ ?_))))
      refine Vc.blk ?_
      refine Vc.matB 13 2 93 1 (b := fun g12 => .agg [.int .i64 ((at' ((at' m.Phases j).Nodes) i).Kind), .int .i64 ((at' ((at' m.Phases j).Nodes) i).K), .sl 1 rg 93 g12 0 0]) rfl rfl (by decide) (by decide) rfl (fun g12 => ?_)
      obtain ⟨I, μ, h0, hI⟩ := h
      refine Vc.loop' (σ := ((Int × (List Int)) × (Nat))) (fun y => I y.1) (fun y => μ y.1) (fun y => envOf [(1, .ptr rg 1 g1 0 0), (2, .ptr rg 2 g2 0 0), (5, .int .i64 n), (6, .int .i64 (m.Phases.length : Int)), (7, .ptr rg 7 g4 0 0), (8, .ptr rg 8 g5 0 0), (9, .int .i64 j), (10, .ptr rg 10 g9 0 0), (11, .int .i64 ((n * (m.Phases.length : Int)) + (x.length : Int))), (12, .int .i64 i), (13, .ptr rg 13 g11 0 0), (14, .int .i64 y.1.1)]) (fun y => stL S rg [(1, .arr 2 [eMission m], g1), (2, .arr 3 [.agg [.int .i64 0, .nil, .int .i64 0]], g2), (7, .arr 3 [.agg [.int .i64 (n * (m.Phases.length : Int)), .sl 3 rg 27 g10 0 x2.length, .int .i64 0]], g4), (8, .arr 3 [.agg [.int .i64 3, .int .i64 0, .sl 1 rg 110 g8 0 x1.length]], g5), (10, .arr 3 [eFormula (at' m.Phases j)], g9), (13, .arr 3 [.agg [.int .i64 ((at' ((at' m.Phases j).Nodes) i).Kind), .int .i64 ((at' ((at' m.Phases j).Nodes) i).K), .sl 1 rg 93 y.2 0 y.1.2.length]], g11), (27, .arr 3 (List.map eNode x2), g10), (93, .arr 1 (List.map (AV.int .i64) y.1.2), y.2), (110, .arr 1 (List.map (AV.int .i64) x1), g8)]) ((0, []), g12) (EWk.trans (EWk.ow (k := 13) (o' := .arr 3 [.agg [.int .i64 ((at' ((at' m.Phases j).Nodes) i).Kind), .int .i64 ((at' ((at' m.Phases j).Nodes) i).K), .sl 1 rg 93 g12 0 ([].length)]]) rfl (OW.one (VWL.vwc (vl' vr (vl' vr (vl' (VW.slen (by first | rfl | omega | (simp only [go_sem] <;> omega))) (vn))))))) (canon (fc vr (fc vr (fc vr (fc vr (fc vr (fc vr (fc vr (fc vr (fc vr (fc vr (fc vr (fc vr (fn))))))))))))) (sc rfl (sc rfl (sc rfl (sc rfl (sc rfl (sc rfl (sc rfl (sc rfl (sc rfl (sn)))))))))))) h0 (fun y h => ?_)
      obtain ⟨⟨a, x3⟩, g13⟩ := y
      replace h := hI (a, x3) h
      show Vc _ _ _ _ (envOf [(1, .ptr rg 1 g1 0 0), (2, .ptr rg 2 g2 0 0), (5, .int .i64 n), (6, .int .i64 (m.Phases.length : Int)), (7, .ptr rg 7 g4 0 0), (8, .ptr rg 8 g5 0 0), (9, .int .i64 j), (10, .ptr rg 10 g9 0 0), (11, .int .i64 ((n * (m.Phases.length : Int)) + (x.length : Int))), (12, .int .i64 i), (13, .ptr rg 13 g11 0 0), (14, .int .i64 a)]) (stL S rg [(1, .arr 2 [eMission m], g1), (2, .arr 3 [.agg [.int .i64 0, .nil, .int .i64 0]], g2), (7, .arr 3 [.agg [.int .i64 (n * (m.Phases.length : Int)), .sl 3 rg 27 g10 0 x2.length, .int .i64 0]], g4), (8, .arr 3 [.agg [.int .i64 3, .int .i64 0, .sl 1 rg 110 g8 0 x1.length]], g5), (10, .arr 3 [eFormula (at' m.Phases j)], g9), (13, .arr 3 [.agg [.int .i64 ((at' ((at' m.Phases j).Nodes) i).Kind), .int .i64 ((at' ((at' m.Phases j).Nodes) i).K), .sl 1 rg 93 g13 0 x3.length]], g11), (27, .arr 3 (List.map eNode x2), g10), (93, .arr 1 (List.map (AV.int .i64) x3), g13), (110, .arr 1 (List.map (AV.int .i64) x1), g8)])
      refine qZ (qZ (rZ (mvZ (.int .i64 a) rfl (wZ rg (o_faP td70 rfl rfl (by rw [sz68]; decide) rfl (wZ rg (o_loadB1 (atL (k := 10) rfl) sz68 ag68 rfl rfl (v := eL eNode ((at' m.Phases j).Nodes)) rfl (mvZ (.int .i64 i) rfl (wZ rg (o_idxL td68 sz78 (by decide) (fun _ => rfl) rfl rfl h.1 ?_))))))))))
      replace h := h.2
      refine wZ rg (o_fa td78 rfl rfl (by rw [sz76]; decide) rfl rfl (wZ rg (o_loadI1 sz76 ag76 rfl rfl (v := eL (AV.int .i64) ((at' ((at' m.Phases j).Nodes) i).Args)) rfl (wZ rg (o_len td76 rfl (wZ rg (o_lss rfl rfl (nZ ?_))))))))
      refine Vc.cond' rfl (fun hb2 => ?_) (fun hb2 => ?_)
      · replace h := h.1 hb2
        refine Vc.skip' ?_
        refine qZ ?_
        refine Vc.blk ?_
        have hg4 := h.1
        replace h := h.2
        have hg5 := h.1
        replace h := h.2
        obtain ⟨r1, hc1, h⟩ := h
        have hg6 := h.1
        replace h := h.2
        refine Vc.drawn' mixed rg (usOf [(14, pc (.int .i64 r1))]) (by kernel_rfl) ?_
        refine dP rfl rfl (o_faP td78 rfl rfl (by rw [sz76]; decide) rfl (dL (E := ([(rg, 13)], [])) rfl rfl (by simp) (cfn) (o_loadB1 (atL (k := 13) rfl) sz76 ag76 rfl rfl (v := .sl 1 rg 93 g13 0 x3.length) rfl (dL (E := ([(rg, 1)], [])) rfl rfl (by simp) (cfa (by simp [apartE]) (cfn)) (o_loadBA (atL (k := 1) rfl) sz94 (by decide) ag94 rfl rfl (v := eMission m) rfl ?_)))))
        refine dP rfl rfl (o_move (v := .int .i64 j) rfl (dP rfl rfl (o_faP td70 rfl rfl (by rw [sz68]; decide) rfl (dL (E := ([(rg, 10)], [])) rfl rfl (by simp) (cfa (by simp [apartE]) (cfa (by simp [apartE]) (cfn))) (o_loadB1 (atL (k := 10) rfl) sz68 ag68 rfl rfl (v := eL eNode ((at' m.Phases j).Nodes)) rfl (dP rfl rfl (o_move (v := .int .i64 i) rfl ?_)))))))
        refine dP rfl rfl (o_idxL td68 sz78 (by decide) (fun _ => rfl) rfl rfl hg4 (dP rfl rfl (o_fa td78 rfl rfl (by rw [sz76]; decide) rfl rfl (dP rfl rfl (o_loadI1 sz76 ag76 rfl rfl (v := eL (AV.int .i64) ((at' ((at' m.Phases j).Nodes) i).Args)) rfl (dP rfl rfl (o_move (v := .int .i64 a) rfl (dP rfl rfl (o_idxL td76 sz3 (by decide) (fun _ => rfl) rfl rfl hg5 ?_)))))))))
        refine dP rfl rfl (o_loadI1 sz3 ag3 rfl rfl (v := .int .i64 (at' ((at' ((at' m.Phases j).Nodes) i).Args) a)) rfl (dP rfl rfl (o_move (v := .int .i64 ((n * (m.Phases.length : Int)) + (x.length : Int))) rfl ?_)))
        refine dC (vs := [eMission m, AV.int .i64 j, AV.int .i64 (at' ((at' ((at' m.Phases j).Nodes) i).Args) a), AV.int .i64 ((n * (m.Phases.length : Int)) + (x.length : Int))]) rfl (vl' vr (vl' vr (vl' vr (vl' vr (vn))))) (fun _ => ref46_moved_ctr hc1 (fun _ hr => ⟨by rw [hr], rfl⟩)) rfl ?_
        refine dL (E := ([], [(rg, 92)])) rfl rfl (by simp) (cfo (by kernel_rfl) (cfo (by kernel_rfl) (cfa (by simp [apartE]) (cfn)))) (o_bslice td76 ok3 zav3 (es := [.int .i64 r1]) rfl (kk := 1) rfl rfl rfl rfl rfl rfl (fun g14 => ?_))
        refine dL (E := ([(rg, 92)], [(rg, 93)])) rfl rfl (by simp) (cfo (by kernel_rfl) (cfo (by kernel_rfl) (cfo (by kernel_rfl) (cfo (by kernel_rfl) (cfn))))) (o_appR td76 bts3 ok3 zav3 (es := x3) (xs := [r1]) (enc := AV.int .i64) (atL (k := 93) rfl) (by first | rfl | omega | (simp only [go_sem] <;> omega)) (view_rowE (atL (k := 92) rfl) (by first | rfl | omega | (simp only [go_sem] <;> omega))) (kk := 1) rfl rfl (fun _ => rfl) (fun _ => rfl) hg6 rfl (fun _ => setL) (fun g15 => ?_))
        refine dP rfl rfl (o_faP td78 rfl rfl (by rw [sz76]; decide) rfl ?_)
        refine dL (E := ([], [(rg, 13)])) rfl rfl (by simp) (cfo (by kernel_rfl) (cfo (by kernel_rfl) (cfo (by kernel_rfl) (cfo (by kernel_rfl) (cfo (by kernel_rfl) (cfn)))))) (o_storeB (atL (k := 13) rfl) sz76 (by decide) rfl (w := .sl 1 rg 93 g15 0 ((x3 ++ [r1]).length)) rfl rfl rfl (v := .agg [.int .i64 ((at' ((at' m.Phases j).Nodes) i).Kind), .int .i64 ((at' ((at' m.Phases j).Nodes) i).K), .sl 1 rg 93 g15 0 ((x3 ++ [r1]).length)]) rfl setL ?_)
        refine dN ?_
        refine rZ ?_
        refine mvZ (.int .i64 a) rfl (wZ rg (o_addG rfl rfl h.1 ?_))
        replace h := h.2
        refine asZ (.int .i64 (a + 1)) rfl (nZ ?_)
        exact ⟨(((a + 1), (x3 ++ [r1])), g15), (canon (fc vr (fc vr (fc vr (fc vr (fc vr (fc vr (fc vr (fc vr (fc vr (fc vr (fc vr (fc vr (fn))))))))))))) (sc rfl (sc rfl (sc rfl (sc rfl (sc rfl (sc rfl (sc rfl (sc rfl (sc rfl (sn))))))))))), h⟩
      replace h := h.2 hb2
      refine Vc.exit' (exB_self ?_)
      refine rZ ?_
      refine wZ rg (o_faP td70 rfl rfl (by rw [sz68]; decide) rfl (wZ rg (o_loadB1 (atL (k := 7) rfl) sz68 ag68 rfl rfl (v := .sl 3 rg 27 g10 0 x2.length) rfl (wZ rg (o_loadBA (atL (k := 13) rfl) sz78 (by decide) ag78 rfl rfl (v := .agg [.int .i64 ((at' ((at' m.Phases j).Nodes) i).Kind), .int .i64 ((at' ((at' m.Phases j).Nodes) i).K), .sl 1 rg 93 g13 0 x3.length]) rfl ?_)))))
      refine Wl.wk (canon_freeze (k := 93) (xs := List.map (AV.int .i64) x3) rfl (es := [(1, .ptr rg 1 g1 0 0), (2, .ptr rg 2 g2 0 0), (5, .int .i64 n), (6, .int .i64 (m.Phases.length : Int)), (7, .ptr rg 7 g4 0 0), (8, .ptr rg 8 g5 0 0), (9, .int .i64 j), (10, .ptr rg 10 g9 0 0), (11, .int .i64 ((n * (m.Phases.length : Int)) + (x.length : Int))), (12, .int .i64 i), (96, .sl 3 rg 27 g10 0 x2.length), (97, .agg [.int .i64 ((at' ((at' m.Phases j).Nodes) i).Kind), .int .i64 ((at' ((at' m.Phases j).Nodes) i).K), eL (AV.int .i64) x3])]) (fc vr (fc vr (fc vr (fc vr (fc vr (fc vr (fc vr (fc vr (fc vr (fc vr (fc (frz_ne rfl) (fc (VW.aggL (vl' vr (vl' vr (vl' (frz_full rfl) (vn))))) (fn))))))))))))) (m := [(1, .arr 2 [eMission m], g1), (2, .arr 3 [.agg [.int .i64 0, .nil, .int .i64 0]], g2), (7, .arr 3 [.agg [.int .i64 (n * (m.Phases.length : Int)), .sl 3 rg 27 g10 0 x2.length, .int .i64 0]], g4), (8, .arr 3 [.agg [.int .i64 3, .int .i64 0, .sl 1 rg 110 g8 0 x1.length]], g5), (10, .arr 3 [eFormula (at' m.Phases j)], g9), (27, .arr 3 (List.map eNode x2), g10), (110, .arr 1 (List.map (AV.int .i64) x1), g8)]) (sc rfl (sc rfl (sc rfl (sc rfl (sc rfl (sc rfl (sc rfl (sn))))))))) ?_
      refine wZ rg (o_bslice td68 ok78 zav78 (es := [.agg [.int .i64 ((at' ((at' m.Phases j).Nodes) i).Kind), .int .i64 ((at' ((at' m.Phases j).Nodes) i).K), eL (AV.int .i64) x3]]) rfl (kk := 3) rfl rfl rfl rfl rfl rfl (fun g17 => ?_))
      refine wZ rg (o_appR td68 bts78 ok78 zav78 (es := x2) (xs := [(⟨(at' ((at' m.Phases j).Nodes) i).Kind, (at' ((at' m.Phases j).Nodes) i).K, x3⟩ : GNode)]) (enc := eNode) (atL (k := 27) rfl) (by first | rfl | omega | (simp only [go_sem] <;> omega)) (view_rowE (atL (k := 98) rfl) (by first | rfl | omega | (simp only [go_sem] <;> omega))) (kk := 3) rfl rfl (fun _ => rfl) (fun _ => rfl) h.1 rfl (fun _ => setL) (fun g18 => ?_))
      replace h := h.2
      refine wZ rg (o_faP td70 rfl rfl (by rw [sz68]; decide) rfl ?_)
      refine wZ rg (o_storeB (atL (k := 7) rfl) sz68 (by decide) rfl (w := .sl 3 rg 27 g18 0 ((x2 ++ [(⟨(at' ((at' m.Phases j).Nodes) i).Kind, (at' ((at' m.Phases j).Nodes) i).K, x3⟩ : GNode)]).length)) rfl rfl rfl (v := .agg [.int .i64 (n * (m.Phases.length : Int)), .sl 3 rg 27 g18 0 ((x2 ++ [(⟨(at' ((at' m.Phases j).Nodes) i).Kind, (at' ((at' m.Phases j).Nodes) i).K, x3⟩ : GNode)]).length), .int .i64 0]) rfl setL ?_)
      refine nZ (rZ (mvZ (.int .i64 i) rfl (wZ rg (o_addG rfl rfl h.1 ?_))))
      replace h := h.2
      refine asZ (.int .i64 (i + 1)) rfl (nZ ?_)
      exact ⟨(((i + 1), (x2 ++ [(⟨(at' ((at' m.Phases j).Nodes) i).Kind, (at' ((at' m.Phases j).Nodes) i).K, x3⟩ : GNode)])), g18), (canon (fc vr (fc vr (fc vr (fc vr (fc vr (fc vr (fc vr (fc vr (fc vr (fc vr (fn))))))))))) (sc rfl (sc rfl (sc rfl (sc rfl (sc rfl (sc rfl (sc rfl (sn))))))))), h⟩
    replace h := h.2 hb1
    refine Vc.exit' (exB_self ?_)
    obtain ⟨r2, hc2, h⟩ := h
    have hg7 := h.1
    replace h := h.2
    refine Vc.drawn' mixed rg (usOf [(7, pc (.int .i64 r2))]) (by kernel_rfl) ?_
    refine dP rfl rfl (o_faP td78 rfl rfl (by rw [sz76]; decide) rfl (dL (E := ([(rg, 8)], [])) rfl rfl (by simp) (cfn) (o_loadB1 (atL (k := 8) rfl) sz76 ag76 rfl rfl (v := .sl 1 rg 110 g8 0 x1.length) rfl (dL (E := ([(rg, 1)], [])) rfl rfl (by simp) (cfa (by simp [apartE]) (cfn)) (o_loadBA (atL (k := 1) rfl) sz94 (by decide) ag94 rfl rfl (v := eMission m) rfl (dP rfl rfl (o_move (v := .int .i64 j) rfl ?_)))))))
    refine dP rfl rfl (o_faP td70 rfl rfl (by rw [sz3]; decide) rfl (dL (E := ([(rg, 10)], [])) rfl rfl (by simp) (cfa (by simp [apartE]) (cfa (by simp [apartE]) (cfn))) (o_loadB1 (atL (k := 10) rfl) sz3 ag3 rfl rfl (v := .int .i64 ((at' m.Phases j).Top)) rfl (dP rfl rfl (o_move (v := .int .i64 ((n * (m.Phases.length : Int)) + (x.length : Int))) rfl ?_)))))
    refine dC (vs := [eMission m, AV.int .i64 j, AV.int .i64 ((at' m.Phases j).Top), AV.int .i64 ((n * (m.Phases.length : Int)) + (x.length : Int))]) rfl (vl' vr (vl' vr (vl' vr (vl' vr (vn))))) (fun _ => ref46_moved_ctr hc2 (fun _ hr => ⟨by rw [hr], rfl⟩)) rfl ?_
    refine dL (E := ([], [(rg, 109)])) rfl rfl (by simp) (cfo (by kernel_rfl) (cfo (by kernel_rfl) (cfa (by simp [apartE]) (cfn)))) (o_bslice td76 ok3 zav3 (es := [.int .i64 r2]) rfl (kk := 1) rfl rfl rfl rfl rfl rfl (fun g19 => ?_))
    refine dL (E := ([(rg, 109)], [(rg, 110)])) rfl rfl (by simp) (cfo (by kernel_rfl) (cfo (by kernel_rfl) (cfo (by kernel_rfl) (cfo (by kernel_rfl) (cfn))))) (o_appR td76 bts3 ok3 zav3 (es := x1) (xs := [r2]) (enc := AV.int .i64) (atL (k := 110) rfl) (by first | rfl | omega | (simp only [go_sem] <;> omega)) (view_rowE (atL (k := 109) rfl) (by first | rfl | omega | (simp only [go_sem] <;> omega))) (kk := 1) rfl rfl (fun _ => rfl) (fun _ => rfl) hg7 rfl (fun _ => setL) (fun g20 => ?_))
    refine dP rfl rfl (o_faP td78 rfl rfl (by rw [sz76]; decide) rfl ?_)
    refine dL (E := ([], [(rg, 8)])) rfl rfl (by simp) (cfo (by kernel_rfl) (cfo (by kernel_rfl) (cfo (by kernel_rfl) (cfo (by kernel_rfl) (cfo (by kernel_rfl) (cfn)))))) (o_storeB (atL (k := 8) rfl) sz76 (by decide) rfl (w := .sl 1 rg 110 g20 0 ((x1 ++ [r2]).length)) rfl rfl rfl (v := .agg [.int .i64 3, .int .i64 0, .sl 1 rg 110 g20 0 ((x1 ++ [r2]).length)]) rfl setL (dN (rZ (mvZ (.int .i64 j) rfl ?_))))
    refine wZ rg (o_addG rfl rfl h.1 ?_)
    replace h := h.2
    refine asZ (.int .i64 (j + 1)) rfl (nZ ?_)
    exact ⟨(((j + 1), x2, (x1 ++ [r2])), (g10, g20)), (canon (fc vr (fc vr (fc vr (fc vr (fc vr (fc vr (fc vr (fn)))))))) (sc rfl (sc rfl (sc rfl (sc rfl (sc rfl (sc rfl (sn)))))))), h⟩
  replace h := h.2 hb
  refine Vc.exit' (exB_self ?_)
  refine qZ (rZ (wZ rg (o_faP td78 rfl rfl (by rw [sz76]; decide) rfl (wZ rg (o_loadB1 (atL (k := 8) rfl) sz76 ag76 rfl rfl (v := .sl 1 rg 110 g8 0 x1.length) rfl (wZ rg (o_idxR0 td76 sz3 (by decide) rfl rfl h.1 ?_)))))))
  have hi := h.1
  replace h := h.2
  refine wZ rg (o_loadR1 (atL (k := 110) rfl) sz3 ag3 rfl (lt_of hi (by first | rfl | omega | (simp only [go_sem] <;> omega))) rfl (v := .int .i64 (at' x1 0)) rfl (wZ rg (o_faP td70 rfl rfl (by rw [sz3]; decide) rfl ?_)))
  refine wZ rg (o_storeB (atL (k := 7) rfl) sz3 (by decide) rfl (w := .int .i64 (at' x1 0)) rfl rfl rfl (v := .agg [.int .i64 (n * (m.Phases.length : Int)), .sl 3 rg 27 g7 0 x.length, .int .i64 (at' x1 0)]) rfl setL (nZ ?_))
  obtain ⟨J, h, hJ⟩ := h
  refine Vc.join' (σ := ((Int × (List GNode)) × (Nat × Nat × Nat × Nat))) (fun y => J y.1) (fun y => envOf [(1, .ptr rg 1 y.2.1 0 0), (2, .ptr rg 2 y.2.2.1 0 0), (5, .int .i64 n), (7, .ptr rg 7 y.2.2.2.1 0 0)]) (fun y => stL S rg [(1, .arr 2 [eMission m], y.2.1), (2, .arr 3 [.agg [.int .i64 0, .nil, .int .i64 0]], y.2.2.1), (7, .arr 3 [.agg [.int .i64 (n * (m.Phases.length : Int)), .sl 3 rg 27 y.2.2.2.2 0 y.1.2.length, .int .i64 y.1.1]], y.2.2.2.1), (27, .arr 3 (List.map eNode y.1.2), y.2.2.2.2)]) (fun y h => ?_) ?_
  · obtain ⟨⟨x4, x5⟩, ⟨g21, g22, g23, g24⟩⟩ := y
    replace h := hJ (x4, x5) h
    show Vc _ _ _ _ (envOf [(1, .ptr rg 1 g21 0 0), (2, .ptr rg 2 g22 0 0), (5, .int .i64 n), (7, .ptr rg 7 g23 0 0)]) (stL S rg [(1, .arr 2 [eMission m], g21), (2, .arr 3 [.agg [.int .i64 0, .nil, .int .i64 0]], g22), (7, .arr 3 [.agg [.int .i64 (n * (m.Phases.length : Int)), .sl 3 rg 27 g24 0 x5.length, .int .i64 x4]], g23), (27, .arr 3 (List.map eNode x5), g24)])
    refine qZ (qZ (rZ (wZ rg (o_faP td70 rfl rfl (by rw [sz68]; decide) rfl (wZ rg (o_loadB1 (atL (k := 7) rfl) sz68 ag68 rfl rfl (v := .sl 3 rg 27 g24 0 x5.length) rfl (wZ rg (o_lenR td68 rfl (wZ rg (o_gtr rfl rfl (nZ ?_)))))))))))
    refine Vc.cond' rfl (fun hb3 => ?_) (fun hb3 => ?_)
    · replace h := h.1 hb3
      refine qZ (rZ (wZ rg (o_build td70 zav70 bok70 szs70 sz70 (ps := []) rfl rfl (v := .agg [.int .i64 0, .nil, .int .i64 0]) rfl (wZ rg (o_storeB (atL (k := 2) rfl) sz70 (by decide) rfl (w := .agg [.int .i64 0, .nil, .int .i64 0]) rfl rfl rfl (v := .agg [.int .i64 0, .nil, .int .i64 0]) rfl setL (asZ .nil rfl (asZ (.int .i64 4) rfl (nZ ?_))))))))
      refine Vc.ret' ?_
      refine res_cellA (atL (k := 2) rfl) sz70 (by decide) ag70 rfl rfl (v := .agg [.int .i64 0, .nil, .int .i64 0]) rfl (res_tmp (v := .nil) rfl (res_tmp (v := .int .i64 4) rfl (res_nil ?_)))
      show Gives _ (.tuple [.agg [.int .i64 0, .nil, .int .i64 0], .nil, .int .i64 4]) _
      exact gives_out hrg (VW.tupL (vl' (VW.aggL (vl' vr (vl' (VW.nilL) (vl' vr (vn))))) (vl' (VW.nilL) (vl' vr (vn))))) (hQ _ _ _ h)
    replace h := h.2 hb3
    refine Vc.skip' ?_
    refine qZ (rZ (asZ .nil rfl (nZ (qZ (qZ (rZ (asZ (.int .i64 0) rfl (nZ ?_))))))))
    refine Vc.blk ?_
    refine Vc.mat 15 148 3 rfl (by decide) (fun g25 => ?_)
    obtain ⟨I, μ, h0, hI⟩ := h
    refine Vc.loop' (σ := ((Int × (List GRat)) × (Nat))) (fun y => I y.1) (fun y => μ y.1) (fun y => envOf [(1, .ptr rg 1 g21 0 0), (2, .ptr rg 2 g22 0 0), (5, .int .i64 n), (7, .ptr rg 7 g23 0 0), (15, .sl 3 rg 148 y.2 0 y.1.2.length), (16, .int .i64 y.1.1)]) (fun y => stL S rg [(1, .arr 2 [eMission m], g21), (2, .arr 3 [.agg [.int .i64 0, .nil, .int .i64 0]], g22), (7, .arr 3 [.agg [.int .i64 (n * (m.Phases.length : Int)), .sl 3 rg 27 g24 0 x5.length, .int .i64 x4]], g23), (27, .arr 3 (List.map eNode x5), g24), (148, .arr 3 (List.map eRat y.1.2), y.2)]) ((0, []), g25) (canon (fc vr (fc vr (fc vr (fc vr (fc (VW.slen (by first | rfl | omega | (simp only [go_sem] <;> omega))) (fc vr (fn))))))) (sc rfl (sc rfl (sc rfl (sc rfl (sc rfl (sn))))))) h0 (fun y h => ?_)
    obtain ⟨⟨i1, p⟩, g26⟩ := y
    replace h := hI (i1, p) h
    show Vc _ _ _ _ (envOf [(1, .ptr rg 1 g21 0 0), (2, .ptr rg 2 g22 0 0), (5, .int .i64 n), (7, .ptr rg 7 g23 0 0), (15, .sl 3 rg 148 g26 0 p.length), (16, .int .i64 i1)]) (stL S rg [(1, .arr 2 [eMission m], g21), (2, .arr 3 [.agg [.int .i64 0, .nil, .int .i64 0]], g22), (7, .arr 3 [.agg [.int .i64 (n * (m.Phases.length : Int)), .sl 3 rg 27 g24 0 x5.length, .int .i64 x4]], g23), (27, .arr 3 (List.map eNode x5), g24), (148, .arr 3 (List.map eRat p), g26)])
    refine qZ (qZ (rZ (mvZ (.int .i64 i1) rfl (mvZ (.int .i64 n) rfl (wZ rg (o_lss rfl rfl (nZ ?_)))))))
    refine Vc.cond' rfl (fun hb4 => ?_) (fun hb4 => ?_)
    · replace h := h.1 hb4
      refine Vc.skip' ?_
      refine qZ ?_
      refine Vc.blk ?_
      refine rZ ?_
      refine mvZ (.sl 3 rg 148 g26 0 p.length) rfl (wZ rg (o_faP td94 rfl rfl (by rw [sz92]; decide) rfl (wZ rg (o_loadB1 (atL (k := 1) rfl) sz92 ag92 rfl rfl (v := eL (eL eRat) m.P) rfl (mvZ (.int .i64 i1) rfl (wZ rg (o_idxL td92 sz22 (by decide) (fun _ => rfl) rfl rfl h.1 ?_)))))))
      replace h := h.2
      refine wZ rg (o_loadI1 sz22 ag22 rfl rfl (v := eL eRat (at' m.P i1)) rfl (wZ rg (o_appR td22 bts27 ok27 zav27 (es := p) (xs := (at' m.P i1)) (enc := eRat) (atL (k := 148) rfl) (by first | rfl | omega | (simp only [go_sem] <;> omega)) (rfl) (kk := 3) rfl rfl (fun _ => rfl) (fun _ => rfl) h.1 rfl (fun _ => setL) (fun g27 => ?_))))
      replace h := h.2
      refine asZ (.sl 3 rg 148 g27 0 ((p ++ (at' m.P i1)).length)) rfl (nZ (rZ (mvZ (.int .i64 i1) rfl (wZ rg (o_addG rfl rfl h.1 ?_)))))
      replace h := h.2
      refine asZ (.int .i64 (i1 + 1)) rfl (nZ ?_)
      exact ⟨(((i1 + 1), (p ++ (at' m.P i1))), g27), (canon (fc vr (fc vr (fc vr (fc vr (fc vr (fc vr (fn))))))) (sc rfl (sc rfl (sc rfl (sc rfl (sc rfl (sn))))))), h⟩
    replace h := h.2 hb4
    refine Vc.exit' (exB_self ?_)
    refine qZ (rZ (wZ rg (o_loadBA (atL (k := 7) rfl) sz70 (by decide) ag70 rfl rfl (v := .agg [.int .i64 (n * (m.Phases.length : Int)), .sl 3 rg 27 g24 0 x5.length, .int .i64 x4]) rfl (mvZ (.sl 3 rg 148 g26 0 p.length) rfl ?_))))
    refine wZ rg (o_storeB (atL (k := 2) rfl) sz70 (by decide) rfl (w := .agg [.int .i64 (n * (m.Phases.length : Int)), .sl 3 rg 27 g24 0 x5.length, .int .i64 x4]) rfl rfl rfl (v := .agg [.int .i64 (n * (m.Phases.length : Int)), .sl 3 rg 27 g24 0 x5.length, .int .i64 x4]) rfl setL (asZ (.sl 3 rg 148 g26 0 p.length) rfl (asZ (.int .i64 0) rfl (nZ ?_))))
    refine Vc.ret' ?_
    refine res_cellA (atL (k := 2) rfl) sz70 (by decide) ag70 rfl rfl (v := .agg [.int .i64 (n * (m.Phases.length : Int)), .sl 3 rg 27 g24 0 x5.length, .int .i64 x4]) rfl (res_tmp (v := .sl 3 rg 148 g26 0 p.length) rfl (res_tmp (v := .int .i64 0) rfl (res_nil ?_)))
    show Gives _ (.tuple [.agg [.int .i64 (n * (m.Phases.length : Int)), .sl 3 rg 27 g24 0 x5.length, .int .i64 x4], .sl 3 rg 148 g26 0 p.length, .int .i64 0]) _
    refine gives_freeze (k := 27) (xs := List.map eNode x5) rfl (v' := .tuple [.agg [.int .i64 (n * (m.Phases.length : Int)), eL eNode x5, .int .i64 x4], .sl 3 rg 148 g26 0 p.length, .int .i64 0]) (VW.tupL (vl' (VW.aggL (vl' vr (vl' (frz_full rfl) (vl' vr (vn))))) (vl' (frz_ne rfl) (vl' vr (vn))))) ?_
    refine gives_freeze (k := 148) (xs := List.map eRat p) rfl (v' := .tuple [.agg [.int .i64 (n * (m.Phases.length : Int)), eL eNode x5, .int .i64 x4], eL eRat p, .int .i64 0]) (VW.tupL (vl' vr (vl' (frz_full rfl) (vl' vr (vn))))) ?_
    exact gives_out hrg (VW.tupL (vl' vr (vl' vr (vl' vr (vn))))) (hQ _ _ _ h)
  refine qZ (rZ (mvZ (.int .i64 (m.Phases.length : Int)) rfl (wZ rg (o_gtr rfl rfl (nZ ?_)))))
  refine Vc.cond' rfl (fun hb5 => ?_) (fun hb5 => ?_)
  · replace h := h.1 hb5
    refine qZ (rZ (wZ rg (o_faP td70 rfl rfl (by rw [sz3]; decide) rfl (wZ rg (o_loadB1 (atL (k := 7) rfl) sz3 ag3 rfl rfl (v := .int .i64 (n * (m.Phases.length : Int))) rfl (wZ rg (o_faP td70 rfl rfl (by rw [sz68]; decide) rfl (wZ rg (o_loadB1 (atL (k := 7) rfl) sz68 ag68 rfl rfl (v := .sl 3 rg 27 g7 0 x.length) rfl (wZ rg (o_lenR td68 rfl (wZ rg (o_addG rfl rfl h.1 ?_)))))))))))))
    replace h := h.2
    refine wZ rg (o_faP td70 rfl rfl (by rw [sz3]; decide) rfl (wZ rg (o_storeB (atL (k := 7) rfl) sz3 (by decide) rfl (w := .int .i64 ((n * (m.Phases.length : Int)) + (x.length : Int))) rfl rfl rfl (v := .agg [.int .i64 (n * (m.Phases.length : Int)), .sl 3 rg 27 g7 0 x.length, .int .i64 ((n * (m.Phases.length : Int)) + (x.length : Int))]) rfl setL (nZ (rZ ?_)))))
    refine wZ rg (o_faP td70 rfl rfl (by rw [sz68]; decide) rfl (wZ rg (o_loadB1 (atL (k := 7) rfl) sz68 ag68 rfl rfl (v := .sl 3 rg 27 g7 0 x.length) rfl (wZ rg (o_loadBA (atL (k := 8) rfl) sz78 (by decide) ag78 rfl rfl (v := .agg [.int .i64 3, .int .i64 0, .sl 1 rg 110 g8 0 x1.length]) rfl ?_)))))
    refine Wl.wk (canon_freeze (k := 110) (xs := List.map (AV.int .i64) x1) rfl (es := [(1, .ptr rg 1 g1 0 0), (2, .ptr rg 2 g2 0 0), (5, .int .i64 n), (7, .ptr rg 7 g4 0 0), (127, .sl 3 rg 27 g7 0 x.length), (128, .agg [.int .i64 3, .int .i64 0, eL (AV.int .i64) x1])]) (fc vr (fc vr (fc vr (fc vr (fc (frz_ne rfl) (fc (VW.aggL (vl' vr (vl' vr (vl' (frz_full rfl) (vn))))) (fn))))))) (m := [(1, .arr 2 [eMission m], g1), (2, .arr 3 [.agg [.int .i64 0, .nil, .int .i64 0]], g2), (7, .arr 3 [.agg [.int .i64 (n * (m.Phases.length : Int)), .sl 3 rg 27 g7 0 x.length, .int .i64 ((n * (m.Phases.length : Int)) + (x.length : Int))]], g4), (27, .arr 3 (List.map eNode x), g7)]) (sc rfl (sc rfl (sc rfl (sc rfl (sn)))))) ?_
    refine wZ rg (o_bslice td68 ok78 zav78 (es := [.agg [.int .i64 3, .int .i64 0, eL (AV.int .i64) x1]]) rfl (kk := 3) rfl rfl rfl rfl rfl rfl (fun g29 => ?_))
    refine wZ rg (o_appR td68 bts78 ok78 zav78 (es := x) (xs := [(⟨3, 0, x1⟩ : GNode)]) (enc := eNode) (atL (k := 27) rfl) (by first | rfl | omega | (simp only [go_sem] <;> omega)) (view_rowE (atL (k := 129) rfl) (by first | rfl | omega | (simp only [go_sem] <;> omega))) (kk := 3) rfl rfl (fun _ => rfl) (fun _ => rfl) h.1 rfl (fun _ => setL) (fun g30 => ?_))
    replace h := h.2
    refine wZ rg (o_faP td70 rfl rfl (by rw [sz68]; decide) rfl (wZ rg (o_storeB (atL (k := 7) rfl) sz68 (by decide) rfl (w := .sl 3 rg 27 g30 0 ((x ++ [(⟨3, 0, x1⟩ : GNode)]).length)) rfl rfl rfl (v := .agg [.int .i64 (n * (m.Phases.length : Int)), .sl 3 rg 27 g30 0 ((x ++ [(⟨3, 0, x1⟩ : GNode)]).length), .int .i64 ((n * (m.Phases.length : Int)) + (x.length : Int))]) rfl setL (nZ ?_))))
    exact ⟨((((n * (m.Phases.length : Int)) + (x.length : Int)), (x ++ [(⟨3, 0, x1⟩ : GNode)])), (g1, g2, g4, g30)), (canon (fc vr (fc vr (fc vr (fc vr (fn))))) (sc rfl (sc rfl (sc rfl (sc rfl (sn)))))), h⟩
  replace h := h.2 hb5
  refine Vc.skip' ?_
  exact ⟨(((at' x1 0), x), (g1, g2, g4, g7)), (canon (fc vr (fc vr (fc vr (fc vr (fn))))) (sc rfl (sc rfl (sc rfl (sc rfl (sn)))))), h⟩
end Go.Proofs.Ytonbnfgknijpoaa
