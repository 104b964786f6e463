/- Walks of functions. Conditions: none. -/
import Derived.Test.YtllegjdggcmgaaaWa
import Derived.Test.YtllegjdggcmgaaaGgTy
import Derived.Test.YtllegjdggcmgaaaGd
import Derived.Test.YtllegjdggcmgaaaK5
/- Walks of functions. Conditions: none. -/
namespace Go.Proofs.Ytllegjdggcmgaaa
open Go.Gg
set_option maxRecDepth 100000
theorem ref16_Choose_ctr {c : GDiagram} {a : GDiagram} {b : GDiagram} {Q : GDiagram → Prop} {S : St} {R : AV → St → Prop} (h : ref16_Choose_W c a b Q) (hQ : ∀ r1, Q r1 → R (eDiagram r1) S) :
    Ctr Try.prog 55 [eDiagram c, eDiagram a, eDiagram b] S R := by
  unfold ref16_Choose_W at h
  refine enterT Try.func55 rfl Try.ntmps55 Try.results55 (by kernel_rfl) (fun rg hrg => ?_)
  refine qZ (rZ (wZ rg (o_box (v := eDiagram c) rfl rfl (kk := 3) rfl (by decide) (fun g1 => (wZ rg (o_box (v := eDiagram a) rfl rfl (kk := 3) rfl (by decide) (fun g2 => (wZ rg (o_box (v := eDiagram b) rfl rfl (kk := 3) rfl (by decide) (fun g3 => (wZ rg (o_alloc zav25 ok25 (kk := 3) rfl (fun g4 => (nZ (qZ ?_)))))))))))))))
  obtain ⟨t1, hc, h⟩ := h
  obtain ⟨x, hc1, h⟩ := h
  obtain ⟨y1, hc2, h⟩ := h
  refine Vc.drawn' mixed rg (usOf [(1, pc (eL AV.bool t1)), (3, pc (eL AV.bool x)), (5, wc (fun gm => .sl 1 rg 16 (gm 0) 0 y1.length) [] [(rg, 16)] (fun gm => [(rg, 16, .arr 1 (List.map AV.bool y1), gm 0)]))]) (by kernel_rfl) ?_
  refine dL (E := ([(rg, 3)], [])) rfl rfl (by simp) (cfn) (o_loadBA (atL (k := 3) rfl) sz25 (by decide) ag25 rfl rfl (v := eDiagram c) rfl ?_)
  refine dC (vs := [eDiagram c]) rfl (vl' vr (vn)) (fun _ => ref15_Table_ctr hc (fun _ hr => ⟨by rw [hr], rfl⟩)) rfl ?_
  refine dL (E := ([(rg, 4)], [])) rfl rfl (by simp) (cfa (by simp [apartE]) (cfn)) (o_loadBA (atL (k := 4) rfl) sz25 (by decide) ag25 rfl rfl (v := eDiagram a) rfl ?_)
  refine dC (vs := [eDiagram a]) rfl (vl' vr (vn)) (fun _ => ref15_Table_ctr hc1 (fun _ hr => ⟨by rw [hr], rfl⟩)) rfl ?_
  refine dL (E := ([(rg, 5)], [])) rfl rfl (by simp) (cfa (by simp [apartE]) (cfa (by simp [apartE]) (cfn))) (o_loadBA (atL (k := 5) rfl) sz25 (by decide) ag25 rfl rfl (v := eDiagram b) rfl ?_)
  refine dCE (vs := [eDiagram b]) (V := fun gm => .sl 1 rg 16 (gm 0) 0 y1.length) (rd := []) (wk := [(rg, 16)]) (wr := fun gm => [(rg, 16, .arr 1 (List.map AV.bool y1), gm 0)]) rfl (vl' vr (vn)) rfl (cfo (by kernel_rfl) (cfo (by kernel_rfl) (cfo (by kernel_rfl) (cfn)))) (by simp) (fun _ => rfl) (fun S' _ _ => ref15_Table_ctrO rg 16 hc2 (fun _ g he => by obtain rfl := he; exact ⟨fun _ => g, rfl, rfl⟩)) (fun gm => ?_)
  refine vdT.eqS setL ?_
  refine dP rfl rfl (o_assign (v := eL AV.bool t1) rfl (dP rfl rfl (o_assign (v := eL AV.bool x) rfl (dP rfl rfl (o_assign (v := .sl 1 rg 16 (gm 0) 0 y1.length) rfl (dN (qZ (qZ (rZ (asZ (.int .i64 0) rfl (nZ ?_)))))))))))
  refine Vc.blk ?_
  obtain ⟨I, μ, h0, hI⟩ := h
  refine Vc.loop' (σ := (Int × (List Bool))) (fun y => I y) (fun y => μ y) (fun y => envOf [(4, .ptr rg 4 g2 0 0), (6, .ptr rg 6 g4 0 0), (7, eL AV.bool t1), (8, eL AV.bool x), (9, .sl 1 rg 16 (gm 0) 0 y.2.length), (10, .int .i64 y.1)]) (fun y => stL S rg [(4, .arr 3 [eDiagram a], g2), (6, .arr 3 [.agg [.nil, .nil, .int .i64 0]], g4), (16, .arr 1 (List.map AV.bool y.2), (gm 0))]) (0, y1) (canon (fc vr (fc vr (fc vr (fc vr (fc vr (fc vr (fn))))))) (sc rfl (sc rfl (sc rfl (sn))))) h0 (fun y h => ?_)
  obtain ⟨s, y2⟩ := y
  replace h := hI (s, y2) h
  show Vc _ _ _ _ (envOf [(4, .ptr rg 4 g2 0 0), (6, .ptr rg 6 g4 0 0), (7, eL AV.bool t1), (8, eL AV.bool x), (9, .sl 1 rg 16 (gm 0) 0 y2.length), (10, .int .i64 s)]) (stL S rg [(4, .arr 3 [eDiagram a], g2), (6, .arr 3 [.agg [.nil, .nil, .int .i64 0]], g4), (16, .arr 1 (List.map AV.bool y2), (gm 0))])
  refine qZ (qZ (rZ (mvZ (.int .i64 s) rfl (mvZ (eL AV.bool t1) rfl (wZ rg (o_len td139 rfl (wZ rg (o_lss rfl rfl (nZ ?_)))))))))
  refine Vc.cond' rfl (fun hb => ?_) (fun hb => ?_)
  · replace h := h.1 hb
    refine Vc.skip' ?_
    refine qZ ?_
    refine Vc.blk ?_
    refine qZ (rZ (mvZ (eL AV.bool t1) rfl (mvZ (.int .i64 s) rfl (wZ rg (o_idxL td139 sz4 (by decide) (fun _ => rfl) rfl rfl h.1 ?_)))))
    replace h := h.2
    refine wZ rg (o_loadI1 sz4 ag4 rfl rfl (v := .bool (at' t1 s)) rfl (nZ ?_))
    refine Vc.cond' rfl (fun hb1 => ?_) (fun hb1 => ?_)
    · replace h := h.1 hb1
      refine rZ ?_
      refine mvZ (.sl 1 rg 16 (gm 0) 0 y2.length) rfl (mvZ (.int .i64 s) rfl (mvZ (eL AV.bool x) rfl (mvZ (.int .i64 s) rfl (wZ rg (o_idxL td139 sz4 (by decide) (fun _ => rfl) rfl rfl h.1 ?_)))))
      replace h := h.2
      refine wZ rg (o_loadI1 sz4 ag4 rfl rfl (v := .bool (at' x s)) rfl (wZ rg (o_idxR0 td139 sz4 (by decide) rfl rfl h.1 ?_)))
      have hi := h.1
      replace h := h.2
      refine wZ rg (o_storeR1 (atL (k := 16) rfl) sz4 (by decide) (x' := (at' x s)) (fun _ => rfl) rfl rfl (lt_of hi (by first | rfl | omega | (simp only [go_sem] <;> omega))) rfl rfl setL (nZ (rZ (mvZ (.int .i64 s) rfl (wZ rg (o_addG rfl rfl h.1 ?_))))))
      replace h := h.2
      refine asZ (.int .i64 (s + 1)) rfl (nZ ?_)
      exact ⟨((s + 1), (set' y2 s (at' x s))), (canon (fc vr (fc vr (fc vr (fc vr (fc (VW.slen (by first | rfl | omega | (simp only [go_sem] <;> omega))) (fc vr (fn))))))) (sc rfl (sc rfl (sc rfl (sn))))), h⟩
    replace h := h.2 hb1
    refine Vc.skip' ?_
    refine rZ ?_
    refine mvZ (.int .i64 s) rfl (wZ rg (o_addG rfl rfl h.1 ?_))
    replace h := h.2
    refine asZ (.int .i64 (s + 1)) rfl (nZ ?_)
    exact ⟨((s + 1), y2), (canon (fc vr (fc vr (fc vr (fc vr (fc vr (fc vr (fn))))))) (sc rfl (sc rfl (sc rfl (sn))))), h⟩
  replace h := h.2 hb
  refine Vc.exit' (exB_self ?_)
  refine qZ (rZ (mvZ (.sl 1 rg 16 (gm 0) 0 y2.length) rfl (wZ rg (o_faP td25 rfl rfl (by rw [sz22]; decide) rfl (wZ rg (o_loadB1 (atL (k := 4) rfl) sz22 ag22 rfl rfl (v := eL (AV.int .i64) a.Order) rfl ?_))))))
  refine Wl.wk (canon_freeze (k := 16) (xs := List.map AV.bool y2) rfl (es := [(6, .ptr rg 6 g4 0 0), (34, eL AV.bool y2), (36, eL (AV.int .i64) a.Order)]) (fc vr (fc (frz_full rfl) (fc vr (fn)))) (m := [(6, .arr 3 [.agg [.nil, .nil, .int .i64 0]], g4)]) (sc rfl (sn))) ?_
  refine wZ rg (o_call (us := [eL AV.bool y2, eL (AV.int .i64) a.Order]) rfl (vl' vr (vl' vr (vn))) (ref15_Of_ctr h fun r h => (wZ rg (o_storeB (atL (k := 6) rfl) sz25 (by decide) rfl (w := eDiagram r) rfl rfl rfl (v := eDiagram r) rfl setL (nZ ?_)))))
  refine Vc.ret' ?_
  refine res_cellA (atL (k := 6) rfl) sz25 (by decide) ag25 rfl rfl (v := eDiagram r) rfl (res_nil ?_)
  show Gives _ (eDiagram r) _
  exact gives_out hrg (VW.refl _) (hQ _ h)
end Go.Proofs.Ytllegjdggcmgaaa
