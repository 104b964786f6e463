/- Walks of functions. Conditions: none. -/
import Derived.Test.YtonbnfgknijpoaaWLPhasesSums
import Derived.Test.YtonbnfgknijpoaaGgTy
import Derived.Test.YtonbnfgknijpoaaKB
import Derived.Test.YtonbnfgknijpoaaKBd
import Derived.Test.YtonbnfgknijpoaaKBe
import Derived.Test.YtonbnfgknijpoaaKBl
import Derived.Test.YtonbnfgknijpoaaKH46
import Derived.Test.YtonbnfgknijpoaaKPphases
import Derived.Test.YtonbnfgknijpoaaKR46
import Derived.Test.YtonbnfgknijpoaaKR46d
namespace Go.Proofs.Ytonbnfgknijpoaa
open Go.Gg
set_option maxRecDepth 100000
theorem law46_PhasesSums_ctr {m : GMission} {Q : Bool → Prop} {S : St} {R : AV → St → Prop} (h : law46_PhasesSums_W m Q) (hQ : ∀ r1, Q r1 → R (AV.bool r1) S) :
    Ctr Try.prog 17 [eMission m] S R := by
  unfold law46_PhasesSums_W at h
  refine enterT Try.func17 rfl Try.ntmps17 Try.results17 (by kernel_rfl) (fun rg hrg => ?_)
  refine qZ (rZ (wZ rg (o_box (v := eMission m) rfl rfl (kk := 2) rfl (by decide) (fun g1 => (asZ (.bool false) rfl (nZ (qZ ?_)))))))
  obtain ⟨J, h, hJ⟩ := h
  refine Vc.join' (σ := ((Bool) × (Nat))) (fun y => J y.1) (fun y => envOf [(1, .ptr rg 1 y.2 0 0), (20, .bool y.1)]) (fun y => stL S rg [(1, .arr 2 [eMission m], y.2)]) (fun y h => ?_) ?_
  · obtain ⟨x, g2⟩ := y
    replace h := hJ x h
    show Vc _ _ _ _ (envOf [(1, .ptr rg 1 g2 0 0), (20, .bool x)]) (stL S rg [(1, .arr 2 [eMission m], g2)])
    refine Vc.cond' rfl (fun hb => ?_) (fun hb => ?_)
    · replace h := h.1 hb
      refine qZ (rZ (wZ rg (o_call (us := []) rfl (vn) (law46_awake_ctr h fun r h => (asZ (.bool r) rfl (nZ ?_))))))
      refine Vc.ret' ?_
      refine res_tmp (v := .bool r) rfl (res_nil ?_)
      show Gives _ (.bool r) _
      exact gives_out hrg (VW.refl _) (hQ _ h)
    replace h := h.2 hb
    refine Vc.skip' ?_
    refine qZ (rZ (asZ (.int .i64 1) rfl (nZ (qZ (qZ (rZ (asZ (.int .i64 0) rfl (nZ ?_))))))))
    refine Vc.blk ?_
    obtain ⟨I, μ, h0, hI⟩ := h
    refine Vc.loop' (σ := (Int × Int)) (fun y => I y) (fun y => μ y) (fun y => envOf [(1, .ptr rg 1 g2 0 0), (3, .int .i64 y.1), (4, .int .i64 y.2)]) (fun y => stL S rg [(1, .arr 2 [eMission m], g2)]) (1, 0) (canon (fc vr (fc vr (fc vr (fn)))) (sc rfl (sn))) h0 (fun y h => ?_)
    obtain ⟨n, i⟩ := y
    replace h := hI (n, i) h
    show Vc _ _ _ _ (envOf [(1, .ptr rg 1 g2 0 0), (3, .int .i64 n), (4, .int .i64 i)]) (stL S rg [(1, .arr 2 [eMission m], g2)])
    refine qZ (qZ (rZ (mvZ (.int .i64 i) rfl (wZ rg (o_loadBA (atL (k := 1) rfl) sz94 (by decide) ag94 rfl rfl (v := eMission m) rfl (wZ rg (o_call (us := [eMission m]) rfl (vl' vr (vn)) (ref46_Events_ctr h fun r1 h => (wZ rg (o_lss rfl rfl (nZ ?_)))))))))))
    refine Vc.cond' rfl (fun hb1 => ?_) (fun hb1 => ?_)
    · replace h := h.1 hb1
      refine Vc.skip' ?_
      refine qZ ?_
      refine Vc.blk ?_
      refine rZ ?_
      refine mvZ (.int .i64 n) rfl (wZ rg (o_faP td94 rfl rfl (by rw [sz91]; decide) rfl (wZ rg (o_loadB1 (atL (k := 1) rfl) sz91 ag91 rfl rfl (v := eL eFormula m.Phases) rfl (wZ rg (o_len td91 rfl (wZ rg (o_addG rfl rfl h.1 ?_))))))))
      replace h := h.2
      refine wZ rg (o_mulG rfl rfl h.1 ?_)
      replace h := h.2
      refine asZ (.int .i64 (n * ((m.Phases.length : Int) + 1))) rfl (nZ (rZ (mvZ (.int .i64 i) rfl (wZ rg (o_addG rfl rfl h.1 ?_)))))
      replace h := h.2
      refine asZ (.int .i64 (i + 1)) rfl (nZ ?_)
      exact ⟨((n * ((m.Phases.length : Int) + 1)), (i + 1)), (canon (fc vr (fc vr (fc vr (fn)))) (sc rfl (sn))), h⟩
    replace h := h.2 hb1
    refine Vc.exit' (exB_self ?_)
    refine qZ (qZ (rZ (mvZ (.int .i64 n) rfl (wZ rg (o_gtr rfl rfl (nZ ?_))))))
    refine Vc.cond' rfl (fun hb2 => ?_) (fun hb2 => ?_)
    · replace h := h.1 hb2
      refine qZ (rZ (asZ (.bool true) rfl (nZ ?_)))
      refine Vc.ret' ?_
      refine res_tmp (v := .bool true) rfl (res_nil ?_)
      show Gives _ (.bool true) _
      exact gives_out hrg (VW.refl _) (hQ _ h)
    replace h := h.2 hb2
    refine Vc.skip' ?_
    refine qZ (rZ (wZ rg (o_build td27 zav27 bok27 szs27 sz27 (ps := []) rfl rfl (v := .agg [.bool false, .nil, .nil]) rfl (wZ rg (o_alloc zav27 ok27 (kk := 3) rfl (fun g3 => (wZ rg (o_storeB (atL (k := 5) rfl) sz27 (by decide) rfl (w := .agg [.bool false, .nil, .nil]) rfl rfl rfl (v := .agg [.bool false, .nil, .nil]) rfl setL (nZ (qZ ?_))))))))))
    obtain ⟨r2, hc, h⟩ := h
    obtain ⟨l, hc1, h⟩ := h
    refine Vc.drawn' mixed rg (usOf [(1, pc (.int .i64 r2)), (5, pc (eL (eL (AV.int .i64)) l))]) (by kernel_rfl) ?_
    refine dL (E := ([(rg, 1)], [])) rfl rfl (by simp) (cfn) (o_loadBA (atL (k := 1) rfl) sz94 (by decide) ag94 rfl rfl (v := eMission m) rfl ?_)
    refine dC (vs := [eMission m]) rfl (vl' vr (vn)) (fun _ => ref46_Events_ctr hc (fun _ hr => ⟨by rw [hr], rfl⟩)) rfl ?_
    refine dP rfl rfl (o_faP td94 rfl rfl (by rw [sz91]; decide) rfl (dL (E := ([(rg, 1)], [])) rfl rfl (by simp) (cfa (by simp [apartE]) (cfn)) (o_loadB1 (atL (k := 1) rfl) sz91 ag91 rfl rfl (v := eL eFormula m.Phases) rfl (dP rfl rfl (o_len td91 rfl ?_)))))
    refine dC (vs := [AV.int .i64 r2, AV.int .i64 (m.Phases.length : Int)]) rfl (vl' vr (vl' vr (vn))) (fun _ => ref46_Histories_ctr hc1 (fun _ hr => ⟨by rw [hr], rfl⟩)) rfl ?_
    refine dP rfl rfl (o_assign (v := eL (eL (AV.int .i64)) l) rfl (dN (qZ (qZ (rZ (asZ (.int .i64 0) rfl (nZ ?_)))))))
    refine Vc.blk ?_
    obtain ⟨I, μ, h0, hI⟩ := h
    refine Vc.loop' (σ := (Int × GRat)) (fun y => I y) (fun y => μ y) (fun y => envOf [(1, .ptr rg 1 g2 0 0), (5, .ptr rg 5 g3 0 0), (6, eL (eL (AV.int .i64)) l), (7, .int .i64 y.1)]) (fun y => stL S rg [(1, .arr 2 [eMission m], g2), (5, .arr 3 [eRat y.2], g3)]) (0, (⟨false, [], []⟩ : GRat)) (EWk.trans (EWk.ow (k := 5) (o' := .arr 3 [eRat (⟨false, [], []⟩ : GRat)]) rfl (OW.one (VWL.vwc (vl' vr (vl' (VW.nilL) (vl' (VW.nilL) (vn))))))) (canon (fc vr (fc vr (fc vr (fc vr (fn))))) (sc rfl (sc rfl (sn))))) h0 (fun y h => ?_)
    obtain ⟨i1, x1⟩ := y
    replace h := hI (i1, x1) h
    show Vc _ _ _ _ (envOf [(1, .ptr rg 1 g2 0 0), (5, .ptr rg 5 g3 0 0), (6, eL (eL (AV.int .i64)) l), (7, .int .i64 i1)]) (stL S rg [(1, .arr 2 [eMission m], g2), (5, .arr 3 [eRat x1], g3)])
    refine qZ (qZ (rZ (mvZ (.int .i64 i1) rfl (mvZ (eL (eL (AV.int .i64)) l) rfl (wZ rg (o_len td111 rfl (wZ rg (o_lss rfl rfl (nZ ?_)))))))))
    refine Vc.cond' rfl (fun hb3 => ?_) (fun hb3 => ?_)
    · replace h := h.1 hb3
      refine Vc.skip' ?_
      refine qZ ?_
      refine Vc.blk ?_
      refine qZ ?_
      have hg := h.1
      replace h := h.2
      obtain ⟨r3, r4, hc2, h⟩ := h
      refine Vc.drawn' mixed rg (usOf [(5, pc (.tuple [eRat r3, eErr 107 r4]))]) (by kernel_rfl) ?_
      refine dL (E := ([(rg, 1)], [])) rfl rfl (by simp) (cfn) (o_loadBA (atL (k := 1) rfl) sz94 (by decide) ag94 rfl rfl (v := eMission m) rfl (dP rfl rfl (o_move (v := eL (eL (AV.int .i64)) l) rfl (dP rfl rfl (o_move (v := .int .i64 i1) rfl (dP rfl rfl (o_idxL td111 sz76 (by decide) (fun _ => rfl) rfl rfl hg (dP rfl rfl (o_loadI1 sz76 ag76 rfl rfl (v := eL (AV.int .i64) (at' l i1)) rfl ?_)))))))))
      refine dC (vs := [eMission m, eL (AV.int .i64) (at' l i1)]) rfl (vl' vr (vl' vr (vn))) (fun _ => phases_Weight_ctr hc2 (fun _ _ hr => ⟨by rw [hr.1, hr.2], rfl⟩)) rfl ?_
      refine dP rfl rfl (o_move (v := .tuple [eRat r3, eErr 107 r4]) rfl (dP rfl rfl (o_extract (v := eRat r3) rfl rfl rfl (dP rfl rfl (o_extract (v := eErr 107 r4) rfl rfl rfl (dL (E := ([], [(rg, 8)])) rfl rfl (by simp) (cfa (by simp [apartE]) (cfn)) (o_alloc zav27 ok27 (kk := 3) rfl (fun g4 => ?_))))))))
      refine dL (E := ([], [(rg, 8)])) rfl rfl (by simp) (cfo (by kernel_rfl) (cfo (by kernel_rfl) (cfn))) (o_storeB (atL (k := 8) rfl) sz27 (by decide) rfl (w := eRat r3) rfl rfl rfl (v := eRat r3) rfl setL (dP rfl rfl (o_assign (v := eErr 107 r4) rfl (dN (qZ (qZ (rZ (mvZ (eErr 107 r4) rfl (wZ rg (o_isnon td31 (E := 107) rfl rfl rfl (mvZ (.bool (Option.isSome r4)) rfl ?_)))))))))))
      refine Wl.guard rfl rfl (fun hb4 => ?_) (fun hb4 => ?_)
      · replace h := h.2 hb4
        refine wZ rg (o_loadBA (atL (k := 8) rfl) sz27 (by decide) ag27 rfl rfl (v := eRat r3) rfl ?_)
        refine Wl.guardT rfl rfl hb4 ?_
        refine wZ rg (o_call (us := [eRat r3]) rfl (vl' vr (vn)) (ref02_Sign_ctr h fun r5 h => ?_))
        refine Wl.guardT rfl rfl hb4 ?_
        refine wZ rg (o_lss rfl rfl (wZ rg (o_pickF rfl hb4 (v := .bool (decide (r5 < 0))) rfl (nZ ?_))))
        refine Vc.cond' rfl (fun hb5 => ?_) (fun hb5 => ?_)
        · replace h := h.1 hb5
          refine qZ (rZ (asZ (.bool false) rfl (nZ ?_)))
          refine Vc.ret' ?_
          refine res_tmp (v := .bool false) rfl (res_nil ?_)
          show Gives _ (.bool false) _
          exact gives_out hrg (VW.refl _) (hQ _ h)
        replace h := h.2 hb5
        refine Vc.skip' ?_
        refine rZ ?_
        refine wZ rg (o_loadBA (atL (k := 5) rfl) sz27 (by decide) ag27 rfl rfl (v := eRat x1) rfl (wZ rg (o_loadBA (atL (k := 8) rfl) sz27 (by decide) ag27 rfl rfl (v := eRat r3) rfl (wZ rg (o_call (us := [eRat x1, eRat r3]) rfl (vl' vr (vl' vr (vn))) (ref02_Add_ctr h fun r6 h => (wZ rg (o_storeB (atL (k := 5) rfl) sz27 (by decide) rfl (w := eRat r6) rfl rfl rfl (v := eRat r6) rfl setL (nZ (rZ ?_))))))))))
        refine mvZ (.int .i64 i1) rfl (wZ rg (o_addG rfl rfl h.1 ?_))
        replace h := h.2
        refine asZ (.int .i64 (i1 + 1)) rfl (nZ ?_)
        exact ⟨((i1 + 1), r6), (canon (fc vr (fc vr (fc vr (fc vr (fn))))) (sc rfl (sc rfl (sn)))), h⟩
      replace h := h.1 hb4
      refine Wl.guardF rfl rfl hb4 rfl ?_
      refine Wl.guardF rfl rfl hb4 rfl ?_
      refine wZ rg (o_pickT rfl hb4 (v := .bool true) rfl (nZ ?_))
      refine Vc.cond' rfl (fun _ => ?_) (fun hb => Bool.noConfusion hb)
      refine qZ (rZ (asZ (.bool false) rfl (nZ ?_)))
      refine Vc.ret' ?_
      refine res_tmp (v := .bool false) rfl (res_nil ?_)
      show Gives _ (.bool false) _
      exact gives_out hrg (VW.refl _) (hQ _ h)
    replace h := h.2 hb3
    refine Vc.exit' (exB_self ?_)
    refine qZ ?_
    obtain ⟨r7, hc3, h⟩ := h
    obtain ⟨r8, hc4, h⟩ := h
    refine Vc.drawn' mixed rg (usOf [(1, pc (eRat r7)), (2, pc (.int .i64 r8))]) (by kernel_rfl) ?_
    refine dL (E := ([(rg, 5)], [])) rfl rfl (by simp) (cfn) (o_loadBA (atL (k := 5) rfl) sz27 (by decide) ag27 rfl rfl (v := eRat x1) rfl ?_)
    refine dC (vs := [AV.int .i64 1]) rfl (vl' vr (vn)) (fun _ => ref02_Of_ctr hc3 (fun _ hr => ⟨by rw [hr], rfl⟩)) rfl ?_
    refine dC (vs := [eRat x1, eRat r7]) rfl (vl' vr (vl' vr (vn))) (fun _ => ref02_Cmp_ctr hc4 (fun _ hr => ⟨by rw [hr], rfl⟩)) rfl ?_
    refine dP rfl rfl (o_eql rfl rfl (dP rfl rfl (o_assign (v := .bool (r8 == 0)) rfl (dN ?_))))
    refine Vc.ret' ?_
    refine res_tmp (v := .bool (r8 == 0)) rfl (res_nil ?_)
    show Gives _ (.bool (r8 == 0)) _
    exact gives_out hrg (VW.refl _) (hQ _ h)
  refine rZ ?_
  refine wZ rg (o_call (us := []) rfl (vn) (law46_awake_ctr h fun r9 h => (wZ rg (o_not rfl (mvZ (.bool (!r9)) rfl ?_)))))
  refine Wl.guard rfl rfl (fun hb6 => ?_) (fun hb6 => ?_)
  · replace h := h.2 hb6
    refine wZ rg (o_loadBA (atL (k := 1) rfl) sz94 (by decide) ag94 rfl rfl (v := eMission m) rfl ?_)
    refine Wl.guardT rfl rfl hb6 ?_
    refine wZ rg (o_call (us := [eMission m]) rfl (vl' vr (vn)) (law46_large_ctr h fun r10 h => (wZ rg (o_pickF rfl hb6 (v := .bool r10) rfl (mvZ (.bool r10) rfl ?_)))))
    refine Wl.guard rfl rfl (fun hb7 => ?_) (fun hb7 => ?_)
    · replace h := h.2 hb7
      refine wZ rg (o_loadBA (atL (k := 1) rfl) sz94 (by decide) ag94 rfl rfl (v := eMission m) rfl ?_)
      refine Wl.guardT rfl rfl hb7 ?_
      refine wZ rg (o_call (us := [eMission m]) rfl (vl' vr (vn)) (ref46_Check_ctr h fun r11 h => ?_))
      refine Wl.guardT rfl rfl hb7 ?_
      refine wZ rg (o_neq rfl rfl (wZ rg (o_pickF rfl hb7 (v := .bool (r11 != 0)) rfl (nZ ?_))))
      exact ⟨((r11 != 0), g1), (canon (fc vr (fc vr (fn))) (sc rfl (sn))), h⟩
    replace h := h.1 hb7
    refine Wl.guardF rfl rfl hb7 rfl ?_
    refine Wl.guardF rfl rfl hb7 rfl ?_
    refine wZ rg (o_pickT rfl hb7 (v := .bool true) rfl (nZ ?_))
    exact ⟨(true, g1), (canon (fc vr (fc vr (fn))) (sc rfl (sn))), h⟩
  replace h := h.1 hb6
  refine Wl.guardF rfl rfl hb6 rfl ?_
  refine wZ rg (o_pickT rfl hb6 (v := .bool true) rfl (mvZ (.bool true) rfl ?_))
  refine Wl.guardF rfl rfl rfl rfl ?_
  refine Wl.guardF rfl rfl rfl rfl ?_
  refine Wl.guardF rfl rfl rfl rfl ?_
  refine wZ rg (o_pickT rfl rfl (v := .bool true) rfl (nZ ?_))
  exact ⟨(true, g1), (canon (fc vr (fc vr (fn))) (sc rfl (sn))), h⟩
end Go.Proofs.Ytonbnfgknijpoaa
