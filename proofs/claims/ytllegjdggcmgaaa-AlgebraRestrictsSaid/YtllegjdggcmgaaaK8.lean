/- Walks of functions. Conditions: none. -/
import Derived.Test.YtllegjdggcmgaaaWa
import Derived.Test.YtllegjdggcmgaaaGgTy
import Derived.Test.YtllegjdggcmgaaaK5
/- Walks of functions. Conditions: none. -/
namespace Go.Proofs.Ytllegjdggcmgaaa
open Go.Gg
set_option maxRecDepth 100000
theorem ref15_Constant_ctr {v : Bool} {o : List Int} {Q : GDiagram → Prop} {S : St} {R : AV → St → Prop} (h : ref15_Constant_W v o Q) (hQ : ∀ r1, Q r1 → R (eDiagram r1) S) :
    Ctr Try.prog 72 [AV.bool v, eL (AV.int .i64) o] S R := by
  unfold ref15_Constant_W at h
  refine enterT Try.func72 rfl Try.ntmps72 Try.results72 (by kernel_rfl) (fun rg hrg => ?_)
  refine qZ (rZ (wZ rg (o_alloc zav25 ok25 (kk := 3) rfl (fun g1 => (nZ (qZ (rZ (wZ rg (o_build td25 zav25 bok25 szs25 sz25 (ps := []) rfl rfl (v := .agg [.nil, .nil, .int .i64 0]) rfl (wZ rg (o_alloc zav25 ok25 (kk := 3) rfl (fun g2 => (wZ rg (o_storeB (atL (k := 5) rfl) sz25 (by decide) rfl (w := .agg [.nil, .nil, .int .i64 0]) rfl rfl rfl (v := .agg [.nil, .nil, .int .i64 0]) rfl setL (nZ ?_)))))))))))))))
  refine qZ (rZ (wZ rg (o_faP td25 rfl rfl (by rw [sz22]; decide) rfl (wZ rg (o_loadB1 (atL (k := 5) rfl) sz22 ag22 rfl rfl (v := .nil) rfl (mvZ (eL (AV.int .i64) o) rfl (wZ rg (o_appN td22 bts3 ok3 zav3 (xs := o) (enc := AV.int .i64) (rfl) (kk := 1) rfl rfl (fun _ => rfl) (fun _ => rfl) h.1 rfl (fun g3 => ?_)))))))))
  replace h := h.2
  refine wZ rg (o_faP td25 rfl rfl (by rw [sz22]; decide) rfl (wZ rg (o_storeB (atL (k := 5) rfl) sz22 (by decide) rfl (w := .sl 1 rg 10 g3 0 o.length) rfl rfl rfl (v := .agg [.sl 1 rg 10 g3 0 o.length, .nil, .int .i64 0]) rfl setL (nZ (qZ (qZ (rZ (mvZ (.bool v) rfl (nZ ?_)))))))))
  refine Vc.cond' rfl (fun hb => ?_) (fun hb => ?_)
  · replace h := h.1 hb
    refine rZ ?_
    refine wZ rg (o_faP td25 rfl rfl (by rw [sz3]; decide) rfl (wZ rg (o_storeB (atL (k := 5) rfl) sz3 (by decide) rfl (w := .int .i64 1) rfl rfl rfl (v := .agg [.sl 1 rg 10 g3 0 o.length, .nil, .int .i64 1]) rfl setL (nZ (qZ (rZ (wZ rg (o_loadBA (atL (k := 5) rfl) sz25 (by decide) ag25 rfl rfl (v := .agg [.sl 1 rg 10 g3 0 o.length, .nil, .int .i64 1]) rfl ?_))))))))
    refine wZ rg (o_storeB (atL (k := 4) rfl) sz25 (by decide) rfl (w := .agg [.sl 1 rg 10 g3 0 o.length, .nil, .int .i64 1]) rfl rfl rfl (v := .agg [.sl 1 rg 10 g3 0 o.length, .nil, .int .i64 1]) rfl setL (nZ ?_))
    refine Vc.ret' ?_
    refine res_cellA (atL (k := 4) rfl) sz25 (by decide) ag25 rfl rfl (v := .agg [.sl 1 rg 10 g3 0 o.length, .nil, .int .i64 1]) rfl (res_nil ?_)
    show Gives _ (.agg [.sl 1 rg 10 g3 0 o.length, .nil, .int .i64 1]) _
    refine gives_freeze (k := 10) (xs := List.map (AV.int .i64) o) rfl (v' := .agg [eL (AV.int .i64) o, .nil, .int .i64 1]) (VW.aggL (vl' (frz_full rfl) (vl' vr (vl' vr (vn))))) ?_
    exact gives_out hrg (VW.aggL (vl' vr (vl' (VW.nilL) (vl' vr (vn))))) (hQ _ h)
  replace h := h.2 hb
  refine Vc.skip' ?_
  refine qZ (rZ (wZ rg (o_loadBA (atL (k := 5) rfl) sz25 (by decide) ag25 rfl rfl (v := .agg [.sl 1 rg 10 g3 0 o.length, .nil, .int .i64 0]) rfl (wZ rg (o_storeB (atL (k := 4) rfl) sz25 (by decide) rfl (w := .agg [.sl 1 rg 10 g3 0 o.length, .nil, .int .i64 0]) rfl rfl rfl (v := .agg [.sl 1 rg 10 g3 0 o.length, .nil, .int .i64 0]) rfl setL (nZ ?_))))))
  refine Vc.ret' ?_
  refine res_cellA (atL (k := 4) rfl) sz25 (by decide) ag25 rfl rfl (v := .agg [.sl 1 rg 10 g3 0 o.length, .nil, .int .i64 0]) rfl (res_nil ?_)
  show Gives _ (.agg [.sl 1 rg 10 g3 0 o.length, .nil, .int .i64 0]) _
  refine gives_freeze (k := 10) (xs := List.map (AV.int .i64) o) rfl (v' := .agg [eL (AV.int .i64) o, .nil, .int .i64 0]) (VW.aggL (vl' (frz_full rfl) (vl' vr (vl' vr (vn))))) ?_
  exact gives_out hrg (VW.aggL (vl' vr (vl' (VW.nilL) (vl' vr (vn))))) (hQ _ h)
end Go.Proofs.Ytllegjdggcmgaaa
/- Walks of functions. Conditions: none. -/
namespace Go.Proofs.Ytllegjdggcmgaaa
open Go.Gg
set_option maxRecDepth 100000
theorem ref16_Restrict_ctr {d : GDiagram} {i : Int} {v : Bool} {Q : GDiagram → Prop} {S : St} {R : AV → St → Prop} (h : ref16_Restrict_W d i v Q) (hQ : ∀ r1, Q r1 → R (eDiagram r1) S) :
    Ctr Try.prog 61 [eDiagram d, AV.int .i64 i, AV.bool v] S R := by
  unfold ref16_Restrict_W at h
  refine enterT Try.func61 rfl Try.ntmps61 Try.results61 (by kernel_rfl) (fun rg hrg => ?_)
  refine qZ (rZ (wZ rg (o_box (v := eDiagram d) rfl rfl (kk := 3) rfl (by decide) (fun g1 => (wZ rg (o_alloc zav25 ok25 (kk := 3) rfl (fun g2 => (nZ (qZ ?_)))))))))
  obtain ⟨r, hc, h⟩ := h
  obtain ⟨r1, hc1, h⟩ := h
  refine Vc.drawn' mixed rg (usOf [(5, pc (eDiagram r)), (6, pc (eDiagram r1))]) (by kernel_rfl) ?_
  refine dL (E := ([(rg, 3)], [])) rfl rfl (by simp) (cfn) (o_loadBA (atL (k := 3) rfl) sz25 (by decide) ag25 rfl rfl (v := eDiagram d) rfl (dP rfl rfl (o_move (v := .int .i64 i) rfl (dP rfl rfl (o_move (v := .bool v) rfl (dP rfl rfl (o_faP td25 rfl rfl (by rw [sz22]; decide) rfl ?_)))))))
  refine dL (E := ([(rg, 3)], [])) rfl rfl (by simp) (cfa (by simp [apartE]) (cfn)) (o_loadB1 (atL (k := 3) rfl) sz22 ag22 rfl rfl (v := eL (AV.int .i64) d.Order) rfl ?_)
  refine dC (vs := [AV.bool v, eL (AV.int .i64) d.Order]) rfl (vl' vr (vl' vr (vn))) (fun _ => ref15_Constant_ctr hc (fun _ hr => ⟨by rw [hr], rfl⟩)) rfl ?_
  refine dC (vs := [eDiagram d, AV.int .i64 i, eDiagram r]) rfl (vl' vr (vl' vr (vl' vr (vn)))) (fun _ => ref16_Compose_ctr hc1 (fun _ hr => ⟨by rw [hr], rfl⟩)) rfl ?_
  refine dL (E := ([], [(rg, 6)])) rfl rfl (by simp) (cfo (by kernel_rfl) (cfo (by kernel_rfl) (cfn))) (o_storeB (atL (k := 6) rfl) sz25 (by decide) rfl (w := eDiagram r1) rfl rfl rfl (v := eDiagram r1) rfl setL (dN ?_))
  refine Vc.ret' ?_
  refine res_cellA (atL (k := 6) rfl) sz25 (by decide) ag25 rfl rfl (v := eDiagram r1) rfl (res_nil ?_)
  show Gives _ (eDiagram r1) _
  exact gives_out hrg (VW.refl _) (hQ _ h)
theorem ref16_Quantify_ctr {d : GDiagram} {mask : Int} {all : Bool} {Q : GDiagram → Prop} {S : St} {R : AV → St → Prop} (h : ref16_Quantify_W d mask all Q) (hQ : ∀ r1, Q r1 → R (eDiagram r1) S) :
    Ctr Try.prog 62 [eDiagram d, AV.int .i64 mask, AV.bool all] S R := by
  unfold ref16_Quantify_W at h
  refine enterT Try.func62 rfl Try.ntmps62 Try.results62 (by kernel_rfl) (fun rg hrg => ?_)
  refine qZ (rZ (wZ rg (o_box (v := eDiagram d) rfl rfl (kk := 3) rfl (by decide) (fun g1 => (wZ rg (o_alloc zav25 ok25 (kk := 3) rfl (fun g2 => (nZ (qZ (rZ (wZ rg (o_loadBA (atL (k := 3) rfl) sz25 (by decide) ag25 rfl rfl (v := eDiagram d) rfl (wZ rg (o_call (us := [eDiagram d]) rfl (vl' vr (vn)) (ref15_Table_ctr h fun t1 h => (asZ (eL AV.bool t1) rfl (nZ (qZ (rZ (asZ .nil rfl (nZ (qZ ?_))))))))))))))))))))))
  refine qZ (rZ (asZ (.int .i64 0) rfl (nZ ?_)))
  refine Vc.blk ?_
  refine Vc.mat 8 46 1 rfl (by decide) (fun g3 => ?_)
  obtain ⟨I, μ, h0, hI⟩ := h
  refine Vc.loop' (σ := ((Int × (List Bool)) × (Nat × Nat × Nat))) (fun y => I y.1) (fun y => μ y.1) (fun y => envOf [(1, .int .i64 mask), (2, .bool all), (3, .ptr rg 3 y.2.1 0 0), (6, .ptr rg 6 y.2.2.1 0 0), (7, eL AV.bool t1), (8, .sl 1 rg 46 y.2.2.2 0 y.1.2.length), (9, .int .i64 y.1.1)]) (fun y => stL S rg [(3, .arr 3 [eDiagram d], y.2.1), (6, .arr 3 [.agg [.nil, .nil, .int .i64 0]], y.2.2.1), (46, .arr 1 (List.map AV.bool y.1.2), y.2.2.2)]) ((0, []), (g1, g2, g3)) (canon (fc vr (fc vr (fc vr (fc vr (fc vr (fc (VW.slen (by first | rfl | omega | (simp only [go_sem] <;> omega))) (fc vr (fn)))))))) (sc rfl (sc rfl (sc rfl (sn))))) h0 (fun y h => ?_)
  obtain ⟨⟨s, out⟩, ⟨g4, g5, g6⟩⟩ := y
  replace h := hI (s, out) h
  show Vc _ _ _ _ (envOf [(1, .int .i64 mask), (2, .bool all), (3, .ptr rg 3 g4 0 0), (6, .ptr rg 6 g5 0 0), (7, eL AV.bool t1), (8, .sl 1 rg 46 g6 0 out.length), (9, .int .i64 s)]) (stL S rg [(3, .arr 3 [eDiagram d], g4), (6, .arr 3 [.agg [.nil, .nil, .int .i64 0]], g5), (46, .arr 1 (List.map AV.bool out), g6)])
  refine qZ (qZ (rZ (mvZ (.int .i64 s) rfl (mvZ (eL AV.bool t1) rfl (wZ rg (o_len td139 rfl (wZ rg (o_lss rfl rfl (nZ ?_)))))))))
  refine Vc.cond' rfl (fun hb => ?_) (fun hb => ?_)
  · replace h := h.1 hb
    refine Vc.skip' ?_
    refine qZ ?_
    refine Vc.blk ?_
    refine qZ (rZ (mvZ (.bool all) rfl (asZ (.bool all) rfl (nZ (qZ (qZ (rZ (asZ (.int .i64 0) rfl (nZ ?_)))))))))
    refine Vc.blk ?_
    obtain ⟨I, μ, h0, hI⟩ := h
    refine Vc.loop' (σ := ((Bool × Int) × (Nat × Nat × Nat))) (fun y => I y.1) (fun y => μ y.1) (fun y => envOf [(1, .int .i64 mask), (2, .bool all), (3, .ptr rg 3 y.2.1 0 0), (6, .ptr rg 6 y.2.2.1 0 0), (7, eL AV.bool t1), (8, .sl 1 rg 46 y.2.2.2 0 out.length), (9, .int .i64 s), (10, .bool y.1.1), (11, .int .i64 y.1.2)]) (fun y => stL S rg [(3, .arr 3 [eDiagram d], y.2.1), (6, .arr 3 [.agg [.nil, .nil, .int .i64 0]], y.2.2.1), (46, .arr 1 (List.map AV.bool out), y.2.2.2)]) ((all, 0), (g4, g5, g6)) (canon (fc vr (fc vr (fc vr (fc vr (fc vr (fc vr (fc vr (fc vr (fc vr (fn)))))))))) (sc rfl (sc rfl (sc rfl (sn))))) h0 (fun y h => ?_)
    obtain ⟨⟨v, u⟩, ⟨g7, g8, g9⟩⟩ := y
    replace h := hI (v, u) h
    show Vc _ _ _ _ (envOf [(1, .int .i64 mask), (2, .bool all), (3, .ptr rg 3 g7 0 0), (6, .ptr rg 6 g8 0 0), (7, eL AV.bool t1), (8, .sl 1 rg 46 g9 0 out.length), (9, .int .i64 s), (10, .bool v), (11, .int .i64 u)]) (stL S rg [(3, .arr 3 [eDiagram d], g7), (6, .arr 3 [.agg [.nil, .nil, .int .i64 0]], g8), (46, .arr 1 (List.map AV.bool out), g9)])
    refine qZ (qZ (rZ (mvZ (.int .i64 u) rfl (mvZ (eL AV.bool t1) rfl (wZ rg (o_len td139 rfl (wZ rg (o_lss rfl rfl (nZ ?_)))))))))
    refine Vc.cond' rfl (fun hb1 => ?_) (fun hb1 => ?_)
    · replace h := h.1 hb1
      refine Vc.skip' ?_
      refine qZ ?_
      refine Vc.blk ?_
      obtain ⟨J, h, hJ⟩ := h
      refine Vc.join' (σ := ((Bool) × (Nat × Nat × Nat))) (fun y => J y.1) (fun y => envOf [(1, .int .i64 mask), (2, .bool all), (3, .ptr rg 3 y.2.1 0 0), (6, .ptr rg 6 y.2.2.1 0 0), (7, eL AV.bool t1), (8, .sl 1 rg 46 y.2.2.2 0 out.length), (9, .int .i64 s), (10, .bool v), (11, .int .i64 u), (40, .bool y.1)]) (fun y => stL S rg [(3, .arr 3 [eDiagram d], y.2.1), (6, .arr 3 [.agg [.nil, .nil, .int .i64 0]], y.2.2.1), (46, .arr 1 (List.map AV.bool out), y.2.2.2)]) (fun y h => ?_) ?_
      · obtain ⟨x, ⟨g10, g11, g12⟩⟩ := y
        replace h := hJ x h
        show Vc _ _ _ _ (envOf [(1, .int .i64 mask), (2, .bool all), (3, .ptr rg 3 g10 0 0), (6, .ptr rg 6 g11 0 0), (7, eL AV.bool t1), (8, .sl 1 rg 46 g12 0 out.length), (9, .int .i64 s), (10, .bool v), (11, .int .i64 u), (40, .bool x)]) (stL S rg [(3, .arr 3 [eDiagram d], g10), (6, .arr 3 [.agg [.nil, .nil, .int .i64 0]], g11), (46, .arr 1 (List.map AV.bool out), g12)])
        refine Vc.cond' rfl (fun hb2 => ?_) (fun hb2 => ?_)
        · replace h := h.1 hb2
          refine rZ ?_
          refine mvZ (.bool all) rfl (wZ rg (o_not rfl (asZ (.bool (!all)) rfl (nZ (rZ (mvZ (.int .i64 u) rfl (wZ rg (o_addG rfl rfl h.1 ?_))))))))
          replace h := h.2
          refine asZ (.int .i64 (u + 1)) rfl (nZ ?_)
          exact ⟨(((!all), (u + 1)), (g10, g11, g12)), (canon (fc vr (fc vr (fc vr (fc vr (fc vr (fc vr (fc vr (fc vr (fc vr (fn)))))))))) (sc rfl (sc rfl (sc rfl (sn))))), h⟩
        replace h := h.2 hb2
        refine Vc.skip' ?_
        refine rZ ?_
        refine mvZ (.int .i64 u) rfl (wZ rg (o_addG rfl rfl h.1 ?_))
        replace h := h.2
        refine asZ (.int .i64 (u + 1)) rfl (nZ ?_)
        exact ⟨((v, (u + 1)), (g10, g11, g12)), (canon (fc vr (fc vr (fc vr (fc vr (fc vr (fc vr (fc vr (fc vr (fc vr (fn)))))))))) (sc rfl (sc rfl (sc rfl (sn))))), h⟩
      refine rZ ?_
      refine mvZ (.int .i64 s) rfl (mvZ (.int .i64 u) rfl (wZ rg (o_xor rfl rfl (mvZ (.int .i64 mask) rfl (wZ rg (o_andNot rfl rfl (wZ rg (o_eql rfl rfl (mvZ (.bool ((bits .andNot .i64 (bits .xor .i64 s u) mask) == 0)) rfl ?_)))))))))
      refine Wl.guard rfl rfl (fun hb3 => ?_) (fun hb3 => ?_)
      · replace h := h.1 hb3
        refine mvZ (eL AV.bool t1) rfl ?_
        refine Wl.guardT rfl rfl hb3 ?_
        refine mvZ (.int .i64 u) rfl ?_
        refine Wl.guardT rfl rfl hb3 ?_
        refine wZ rg (o_idxL td139 sz4 (by decide) (fun _ => rfl) rfl rfl h.1 ?_)
        replace h := h.2
        refine Wl.guardT rfl rfl hb3 ?_
        refine wZ rg (o_loadI1 sz4 ag4 rfl rfl (v := .bool (at' t1 u)) rfl ?_)
        refine Wl.guardT rfl rfl hb3 ?_
        refine mvZ (.bool all) rfl ?_
        refine Wl.guardT rfl rfl hb3 ?_
        refine wZ rg (o_neqB td4 rfl rfl (wZ rg (o_pickT rfl hb3 (v := .bool ((at' t1 u) != all)) rfl (nZ ?_))))
        exact ⟨(((at' t1 u) != all), (g7, g8, g9)), (canon (fc vr (fc vr (fc vr (fc vr (fc vr (fc vr (fc vr (fc vr (fc vr (fc vr (fn))))))))))) (sc rfl (sc rfl (sc rfl (sn))))), h⟩
      replace h := h.2 hb3
      refine Wl.guardF rfl rfl hb3 rfl ?_
      refine Wl.guardF rfl rfl hb3 rfl ?_
      refine Wl.guardF rfl rfl hb3 rfl ?_
      refine Wl.guardF rfl rfl hb3 rfl ?_
      refine Wl.guardF rfl rfl hb3 rfl ?_
      refine wZ rg (o_pickF rfl hb3 (v := .bool false) rfl (nZ ?_))
      exact ⟨(false, (g7, g8, g9)), (canon (fc vr (fc vr (fc vr (fc vr (fc vr (fc vr (fc vr (fc vr (fc vr (fc vr (fn))))))))))) (sc rfl (sc rfl (sc rfl (sn))))), h⟩
    replace h := h.2 hb1
    refine Vc.exit' (exB_self ?_)
    refine rZ ?_
    refine mvZ (.sl 1 rg 46 g9 0 out.length) rfl (mvZ (.bool v) rfl (wZ rg (o_bslice td139 ok4 zav4 (es := [.bool v]) rfl (kk := 1) rfl rfl rfl rfl rfl rfl (fun g13 => ?_))))
    refine wZ rg (o_appR td139 bts4 ok4 zav4 (es := out) (xs := [v]) (enc := AV.bool) (atL (k := 46) rfl) (by first | rfl | omega | (simp only [go_sem] <;> omega)) (view_rowE (atL (k := 45) rfl) (by first | rfl | omega | (simp only [go_sem] <;> omega))) (kk := 1) rfl rfl (fun _ => rfl) (fun _ => rfl) h.1 rfl (fun _ => setL) (fun g14 => ?_))
    replace h := h.2
    refine asZ (.sl 1 rg 46 g14 0 ((out ++ [v]).length)) rfl (nZ (rZ (mvZ (.int .i64 s) rfl (wZ rg (o_addG rfl rfl h.1 ?_)))))
    replace h := h.2
    refine asZ (.int .i64 (s + 1)) rfl (nZ ?_)
    exact ⟨(((s + 1), (out ++ [v])), (g7, g8, g14)), (canon (fc vr (fc vr (fc vr (fc vr (fc vr (fc vr (fc vr (fn)))))))) (sc rfl (sc rfl (sc rfl (sn))))), h⟩
  replace h := h.2 hb
  refine Vc.exit' (exB_self ?_)
  refine qZ (rZ (mvZ (.sl 1 rg 46 g6 0 out.length) rfl (wZ rg (o_faP td25 rfl rfl (by rw [sz22]; decide) rfl (wZ rg (o_loadB1 (atL (k := 3) rfl) sz22 ag22 rfl rfl (v := eL (AV.int .i64) d.Order) rfl ?_))))))
  refine Wl.wk (canon_freeze (k := 46) (xs := List.map AV.bool out) rfl (es := [(6, .ptr rg 6 g5 0 0), (47, eL AV.bool out), (49, eL (AV.int .i64) d.Order)]) (fc vr (fc (frz_full rfl) (fc vr (fn)))) (m := [(6, .arr 3 [.agg [.nil, .nil, .int .i64 0]], g5)]) (sc rfl (sn))) ?_
  refine wZ rg (o_call (us := [eL AV.bool out, eL (AV.int .i64) d.Order]) rfl (vl' vr (vl' vr (vn))) (ref15_Of_ctr h fun r h => (wZ rg (o_storeB (atL (k := 6) rfl) sz25 (by decide) rfl (w := eDiagram r) rfl rfl rfl (v := eDiagram r) rfl setL (nZ ?_)))))
  refine Vc.ret' ?_
  refine res_cellA (atL (k := 6) rfl) sz25 (by decide) ag25 rfl rfl (v := eDiagram r) rfl (res_nil ?_)
  show Gives _ (eDiagram r) _
  exact gives_out hrg (VW.refl _) (hQ _ h)
end Go.Proofs.Ytllegjdggcmgaaa
