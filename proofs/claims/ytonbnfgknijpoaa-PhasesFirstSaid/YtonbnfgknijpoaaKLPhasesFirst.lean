/- Walks of functions. Conditions: none. -/
import Derived.Test.YtonbnfgknijpoaaWLPhasesFirst
import Derived.Test.YtonbnfgknijpoaaGgTy
import Derived.Test.YtonbnfgknijpoaaKB
import Derived.Test.YtonbnfgknijpoaaKF
import Derived.Test.YtonbnfgknijpoaaKH46
import Derived.Test.YtonbnfgknijpoaaKPphases
import Derived.Test.YtonbnfgknijpoaaKR46
namespace Go.Proofs.Ytonbnfgknijpoaa
open Go.Gg
set_option maxRecDepth 100000
theorem law46_PhasesFirst_ctr {m : GMission} {state : Int} {Q : Bool → Prop} {S : St} {R : AV → St → Prop} (h : law46_PhasesFirst_W m state Q) (hQ : ∀ r1, Q r1 → R (AV.bool r1) S) :
    Ctr Try.prog 16 [eMission m, AV.int .i64 state] S R := by
  unfold law46_PhasesFirst_W at h
  refine enterT Try.func16 rfl Try.ntmps16 Try.results16 (by kernel_rfl) (fun rg hrg => ?_)
  refine qZ (rZ (wZ rg (o_box (v := eMission m) rfl rfl (kk := 2) rfl (by decide) (fun g1 => (asZ (.bool false) rfl (nZ (qZ ?_)))))))
  obtain ⟨J, h, hJ⟩ := h
  refine Vc.join' (σ := ((Bool) × (Nat))) (fun y => J y.1) (fun y => envOf [(1, .int .i64 state), (2, .ptr rg 2 y.2 0 0), (27, .bool y.1)]) (fun y => stL S rg [(2, .arr 2 [eMission m], y.2)]) (fun y h => ?_) ?_
  · obtain ⟨x, g2⟩ := y
    replace h := hJ x h
    show Vc _ _ _ _ (envOf [(1, .int .i64 state), (2, .ptr rg 2 g2 0 0), (27, .bool x)]) (stL S rg [(2, .arr 2 [eMission m], g2)])
    refine Vc.cond' rfl (fun hb => ?_) (fun hb => ?_)
    · replace h := h.1 hb
      refine qZ (rZ (wZ rg (o_call (us := []) rfl (vn) (law46_awake_ctr h fun r h => (asZ (.bool r) rfl (nZ ?_))))))
      refine Vc.ret' ?_
      refine res_tmp (v := .bool r) rfl (res_nil ?_)
      show Gives _ (.bool r) _
      exact gives_out hrg (VW.refl _) (hQ _ h)
    replace h := h.2 hb
    refine Vc.skip' ?_
    refine qZ ?_
    obtain ⟨n, hc, h⟩ := h
    refine Vc.drawn' mixed rg (usOf [(1, pc (.int .i64 n))]) (by kernel_rfl) ?_
    refine dL (E := ([(rg, 2)], [])) rfl rfl (by simp) (cfn) (o_loadBA (atL (k := 2) rfl) sz94 (by decide) ag94 rfl rfl (v := eMission m) rfl ?_)
    refine dC (vs := [eMission m]) rfl (vl' vr (vn)) (fun _ => ref46_Events_ctr hc (fun _ hr => ⟨by rw [hr], rfl⟩)) rfl ?_
    refine dP rfl rfl (o_faP td94 rfl rfl (by rw [sz91]; decide) rfl (dL (E := ([(rg, 2)], [])) rfl rfl (by simp) (cfa (by simp [apartE]) (cfn)) (o_loadB1 (atL (k := 2) rfl) sz91 ag91 rfl rfl (v := eL eFormula m.Phases) rfl (dP rfl rfl (o_len td91 rfl (dP rfl rfl (o_assign (v := .int .i64 n) rfl (dP rfl rfl (o_assign (v := .int .i64 (m.Phases.length : Int)) rfl (dN (qZ (qZ (rZ ?_)))))))))))))
    refine mvZ (.int .i64 state) rfl (wZ rg (o_lss rfl rfl (mvZ (.bool (decide (state < 0))) rfl ?_)))
    refine Wl.guard rfl rfl (fun hb1 => ?_) (fun hb1 => ?_)
    · replace h := h.2 hb1
      refine mvZ (.int .i64 state) rfl ?_
      refine Wl.guardT rfl rfl hb1 ?_
      refine mvZ (.int .i64 n) rfl ?_
      refine Wl.guardT rfl rfl hb1 ?_
      refine mvZ (.int .i64 (m.Phases.length : Int)) rfl ?_
      refine Wl.guardT rfl rfl hb1 ?_
      refine wZ rg (o_mulG rfl rfl h.1 ?_)
      replace h := h.2
      refine Wl.guardT rfl rfl hb1 ?_
      refine wZ rg (o_shlG rfl rfl h.1 ?_)
      replace h := h.2
      refine Wl.guardT rfl rfl hb1 ?_
      refine wZ rg (o_geq rfl rfl (wZ rg (o_pickF rfl hb1 (v := .bool (decide ((1 * 2 ^ (Int.toNat (n * (m.Phases.length : Int)))) ≤ state))) rfl (nZ ?_))))
      refine Vc.cond' rfl (fun hb2 => ?_) (fun hb2 => ?_)
      · replace h := h.1 hb2
        refine qZ (rZ (asZ (.bool true) rfl (nZ ?_)))
        refine Vc.ret' ?_
        refine res_tmp (v := .bool true) rfl (res_nil ?_)
        show Gives _ (.bool true) _
        exact gives_out hrg (VW.refl _) (hQ _ h)
      replace h := h.2 hb2
      refine Vc.skip' ?_
      refine qZ (rZ (wZ rg (o_loadBA (atL (k := 2) rfl) sz94 (by decide) ag94 rfl rfl (v := eMission m) rfl (wZ rg (o_call (us := [eMission m]) rfl (vl' vr (vn)) (phases_Unfold_ctr h fun r1 r2 r3 h => (mvZ (.tuple [eFormula r1, eL eRat r2, eErr 107 r3]) rfl (wZ rg (o_extract (v := eFormula r1) rfl rfl rfl (wZ rg (o_extract (v := eL eRat r2) rfl rfl rfl ?_)))))))))))
      refine wZ rg (o_extract (v := eErr 107 r3) rfl rfl rfl (wZ rg (o_alloc zav70 ok70 (kk := 3) rfl (fun g3 => (wZ rg (o_storeB (atL (k := 7) rfl) sz70 (by decide) rfl (w := eFormula r1) rfl rfl rfl (v := eFormula r1) rfl setL (asZ (eL eRat r2) rfl (asZ (eErr 107 r3) rfl (nZ (qZ (qZ (rZ (mvZ (eErr 107 r3) rfl (wZ rg (o_isnon td31 (E := 107) rfl rfl rfl (nZ ?_))))))))))))))))
      refine Vc.cond' rfl (fun hb3 => ?_) (fun hb3 => ?_)
      · replace h := h.1 hb3
        refine qZ (rZ (mvZ (eErr 107 r3) rfl (wZ rg (o_call (us := [eErr 107 r3, AV.int .i64 4]) rfl (vl' vr (vl' vr (vn))) (base_Is_ctr h fun r4 h => (asZ (.bool r4) rfl (nZ ?_)))))))
        refine Vc.ret' ?_
        refine res_tmp (v := .bool r4) rfl (res_nil ?_)
        show Gives _ (.bool r4) _
        exact gives_out hrg (VW.refl _) (hQ _ h)
      replace h := h.2 hb3
      refine Vc.skip' ?_
      refine qZ (rZ (asZ .nil rfl (nZ (qZ (qZ (rZ (asZ (.int .i64 0) rfl (nZ ?_))))))))
      refine Vc.blk ?_
      refine Vc.mat 10 78 1 rfl (by decide) (fun g4 => ?_)
      obtain ⟨I, μ, h0, hI⟩ := h
      refine Vc.loop' (σ := ((Int × (List Int)) × (Nat × Nat × Nat))) (fun y => I y.1) (fun y => μ y.1) (fun y => envOf [(1, .int .i64 state), (2, .ptr rg 2 y.2.1 0 0), (5, .int .i64 n), (6, .int .i64 (m.Phases.length : Int)), (7, .ptr rg 7 y.2.2.1 0 0), (10, .sl 1 rg 78 y.2.2.2 0 y.1.2.length), (11, .int .i64 y.1.1)]) (fun y => stL S rg [(2, .arr 2 [eMission m], y.2.1), (7, .arr 3 [eFormula r1], y.2.2.1), (78, .arr 1 (List.map (AV.int .i64) y.1.2), y.2.2.2)]) ((0, []), (g2, g3, g4)) (canon (fc vr (fc vr (fc vr (fc vr (fc vr (fc (VW.slen (by first | rfl | omega | (simp only [go_sem] <;> omega))) (fc vr (fn)))))))) (sc rfl (sc rfl (sc rfl (sn))))) h0 (fun y h => ?_)
      obtain ⟨⟨i, h1⟩, ⟨g5, g6, g7⟩⟩ := y
      replace h := hI (i, h1) h
      show Vc _ _ _ _ (envOf [(1, .int .i64 state), (2, .ptr rg 2 g5 0 0), (5, .int .i64 n), (6, .int .i64 (m.Phases.length : Int)), (7, .ptr rg 7 g6 0 0), (10, .sl 1 rg 78 g7 0 h1.length), (11, .int .i64 i)]) (stL S rg [(2, .arr 2 [eMission m], g5), (7, .arr 3 [eFormula r1], g6), (78, .arr 1 (List.map (AV.int .i64) h1), g7)])
      refine qZ (qZ (rZ (mvZ (.int .i64 i) rfl (mvZ (.int .i64 n) rfl (wZ rg (o_lss rfl rfl (nZ ?_)))))))
      refine Vc.cond' rfl (fun hb4 => ?_) (fun hb4 => ?_)
      · replace h := h.1 hb4
        refine Vc.skip' ?_
        refine qZ ?_
        refine Vc.blk ?_
        refine qZ (rZ (asZ (.int .i64 0) rfl (nZ ?_)))
        obtain ⟨J, h, hJ⟩ := h
        refine Vc.join' (σ := ((Int) × (Nat × Nat × Nat))) (fun y => J y.1) (fun y => envOf [(1, .int .i64 state), (2, .ptr rg 2 y.2.1 0 0), (5, .int .i64 n), (6, .int .i64 (m.Phases.length : Int)), (7, .ptr rg 7 y.2.2.1 0 0), (10, .sl 1 rg 78 y.2.2.2 0 h1.length), (11, .int .i64 i), (12, .int .i64 y.1)]) (fun y => stL S rg [(2, .arr 2 [eMission m], y.2.1), (7, .arr 3 [eFormula r1], y.2.2.1), (78, .arr 1 (List.map (AV.int .i64) h1), y.2.2.2)]) (fun y h => ?_) ?_
        · obtain ⟨j, ⟨g8, g9, g10⟩⟩ := y
          replace h := hJ j h
          show Vc _ _ _ _ (envOf [(1, .int .i64 state), (2, .ptr rg 2 g8 0 0), (5, .int .i64 n), (6, .int .i64 (m.Phases.length : Int)), (7, .ptr rg 7 g9 0 0), (10, .sl 1 rg 78 g10 0 h1.length), (11, .int .i64 i), (12, .int .i64 j)]) (stL S rg [(2, .arr 2 [eMission m], g8), (7, .arr 3 [eFormula r1], g9), (78, .arr 1 (List.map (AV.int .i64) h1), g10)])
          refine rZ ?_
          refine mvZ (.sl 1 rg 78 g10 0 h1.length) rfl (mvZ (.int .i64 j) rfl (wZ rg (o_bslice td76 ok3 zav3 (es := [.int .i64 j]) rfl (kk := 1) rfl rfl rfl rfl rfl rfl (fun g11 => ?_))))
          refine wZ rg (o_appR td76 bts3 ok3 zav3 (es := h1) (xs := [j]) (enc := AV.int .i64) (atL (k := 78) rfl) (by first | rfl | omega | (simp only [go_sem] <;> omega)) (view_rowE (atL (k := 77) rfl) (by first | rfl | omega | (simp only [go_sem] <;> omega))) (kk := 1) rfl rfl (fun _ => rfl) (fun _ => rfl) h.1 rfl (fun _ => setL) (fun g12 => ?_))
          replace h := h.2
          refine asZ (.sl 1 rg 78 g12 0 ((h1 ++ [j]).length)) rfl (nZ (rZ (mvZ (.int .i64 i) rfl (wZ rg (o_addG rfl rfl h.1 ?_)))))
          replace h := h.2
          refine asZ (.int .i64 (i + 1)) rfl (nZ ?_)
          exact ⟨(((i + 1), (h1 ++ [j])), (g8, g9, g12)), (canon (fc vr (fc vr (fc vr (fc vr (fc vr (fc vr (fc vr (fn)))))))) (sc rfl (sc rfl (sc rfl (sn))))), h⟩
        refine Vc.blk ?_
        obtain ⟨I, μ, h0, hI⟩ := h
        refine Vc.loop' (σ := (Int)) (fun y => I y) (fun y => μ y) (fun y => envOf [(1, .int .i64 state), (2, .ptr rg 2 g5 0 0), (5, .int .i64 n), (6, .int .i64 (m.Phases.length : Int)), (7, .ptr rg 7 g6 0 0), (10, .sl 1 rg 78 g7 0 h1.length), (11, .int .i64 i), (12, .int .i64 y)]) (fun y => stL S rg [(2, .arr 2 [eMission m], g5), (7, .arr 3 [eFormula r1], g6), (78, .arr 1 (List.map (AV.int .i64) h1), g7)]) 0 (canon (fc vr (fc vr (fc vr (fc vr (fc vr (fc vr (fc vr (fc vr (fn))))))))) (sc rfl (sc rfl (sc rfl (sn))))) h0 (fun j1 h => ?_)
        replace h := hI j1 h
        show Vc _ _ _ _ (envOf [(1, .int .i64 state), (2, .ptr rg 2 g5 0 0), (5, .int .i64 n), (6, .int .i64 (m.Phases.length : Int)), (7, .ptr rg 7 g6 0 0), (10, .sl 1 rg 78 g7 0 h1.length), (11, .int .i64 i), (12, .int .i64 j1)]) (stL S rg [(2, .arr 2 [eMission m], g5), (7, .arr 3 [eFormula r1], g6), (78, .arr 1 (List.map (AV.int .i64) h1), g7)])
        refine qZ (qZ (rZ (mvZ (.int .i64 j1) rfl (mvZ (.int .i64 (m.Phases.length : Int)) rfl (wZ rg (o_lss rfl rfl (mvZ (.bool (decide (j1 < (m.Phases.length : Int)))) rfl ?_)))))))
        refine Wl.guard rfl rfl (fun hb5 => ?_) (fun hb5 => ?_)
        · replace h := h.1 hb5
          refine mvZ (.int .i64 state) rfl ?_
          refine Wl.guardT rfl rfl hb5 ?_
          refine mvZ (.int .i64 i) rfl ?_
          refine Wl.guardT rfl rfl hb5 ?_
          refine mvZ (.int .i64 (m.Phases.length : Int)) rfl ?_
          refine Wl.guardT rfl rfl hb5 ?_
          refine wZ rg (o_mulG rfl rfl h.1 ?_)
          replace h := h.2
          refine Wl.guardT rfl rfl hb5 ?_
          refine mvZ (.int .i64 j1) rfl ?_
          refine Wl.guardT rfl rfl hb5 ?_
          refine wZ rg (o_addG rfl rfl h.1 ?_)
          replace h := h.2
          refine Wl.guardT rfl rfl hb5 ?_
          refine wZ rg (o_shr rfl rfl h.1 ?_)
          replace h := h.2
          refine Wl.guardT rfl rfl hb5 ?_
          refine wZ rg (o_and rfl rfl ?_)
          refine Wl.guardT rfl rfl hb5 ?_
          refine wZ rg (o_eql rfl rfl (wZ rg (o_pickT rfl hb5 (v := .bool ((bits .and .i64 (state / 2 ^ (Int.toNat ((i * (m.Phases.length : Int)) + j1))) 1) == 0)) rfl (nZ ?_))))
          refine Vc.cond' rfl (fun hb6 => ?_) (fun hb6 => ?_)
          · replace h := h.1 hb6
            refine Vc.skip' ?_
            refine Vc.blk ?_
            refine rZ ?_
            refine mvZ (.int .i64 j1) rfl (wZ rg (o_addG rfl rfl h.1 ?_))
            replace h := h.2
            refine asZ (.int .i64 (j1 + 1)) rfl (nZ ?_)
            exact ⟨(j1 + 1), (canon (fc vr (fc vr (fc vr (fc vr (fc vr (fc vr (fc vr (fc vr (fn))))))))) (sc rfl (sc rfl (sc rfl (sn))))), h⟩
          replace h := h.2 hb6
          refine Vc.exit' (exB_self ?_)
          exact ⟨(j1, (g5, g6, g7)), (canon (fc vr (fc vr (fc vr (fc vr (fc vr (fc vr (fc vr (fc vr (fn))))))))) (sc rfl (sc rfl (sc rfl (sn))))), h⟩
        replace h := h.2 hb5
        refine Wl.guardF rfl rfl hb5 rfl ?_
        refine Wl.guardF rfl rfl hb5 rfl ?_
        refine Wl.guardF rfl rfl hb5 rfl ?_
        refine Wl.guardF rfl rfl hb5 rfl ?_
        refine Wl.guardF rfl rfl hb5 rfl ?_
        refine Wl.guardF rfl rfl hb5 rfl ?_
        refine Wl.guardF rfl rfl hb5 rfl ?_
        refine Wl.guardF rfl rfl hb5 rfl ?_
        refine wZ rg (o_pickF rfl hb5 (v := .bool false) rfl (nZ ?_))
        refine Vc.cond' rfl (fun hb => Bool.noConfusion hb) (fun _ => ?_)
        refine Vc.exit' (exB_self ?_)
        exact ⟨(j1, (g5, g6, g7)), (canon (fc vr (fc vr (fc vr (fc vr (fc vr (fc vr (fc vr (fc vr (fn))))))))) (sc rfl (sc rfl (sc rfl (sn))))), h⟩
      replace h := h.2 hb4
      refine Vc.exit' (exB_self ?_)
      refine qZ (rZ (wZ rg (o_loadBA (atL (k := 2) rfl) sz94 (by decide) ag94 rfl rfl (v := eMission m) rfl (mvZ (.sl 1 rg 78 g7 0 h1.length) rfl ?_))))
      refine Wl.wk (canon_freeze (k := 78) (xs := List.map (AV.int .i64) h1) rfl (es := [(1, .int .i64 state), (6, .int .i64 (m.Phases.length : Int)), (7, .ptr rg 7 g6 0 0), (80, eMission m), (81, eL (AV.int .i64) h1)]) (fc vr (fc vr (fc vr (fc vr (fc (frz_full rfl) (fn)))))) (m := [(7, .arr 3 [eFormula r1], g6)]) (sc rfl (sn))) ?_
      refine wZ rg (o_call (us := [eMission m, eL (AV.int .i64) h1]) rfl (vl' vr (vl' vr (vn))) (phases_Fails_ctr h fun r5 r6 h => (mvZ (.tuple [.int .i64 r5, eErr 107 r6]) rfl (wZ rg (o_extract (v := .int .i64 r5) rfl rfl rfl (wZ rg (o_extract (v := eErr 107 r6) rfl rfl rfl (asZ (.int .i64 r5) rfl (asZ (eErr 107 r6) rfl (nZ (qZ (rZ ?_))))))))))))
      refine wZ rg (o_loadBA (atL (k := 7) rfl) sz70 (by decide) ag70 rfl rfl (v := eFormula r1) rfl (mvZ (.int .i64 state) rfl (wZ rg (o_call (us := [eFormula r1, AV.int .i64 state]) rfl (vl' vr (vl' vr (vn))) (formula_Value_ctr h fun r7 r8 h => (mvZ (.tuple [.bool r7, eErr 107 r8]) rfl (wZ rg (o_extract (v := .bool r7) rfl rfl rfl (wZ rg (o_extract (v := eErr 107 r8) rfl rfl rfl (asZ (.bool r7) rfl ?_)))))))))))
      refine asZ (eErr 107 r8) rfl (nZ (qZ (rZ (mvZ (eErr 107 r6) rfl (wZ rg (o_isnil td31 (E := 107) rfl rfl rfl (mvZ (.bool (Option.isNone r6)) rfl ?_)))))))
      refine Wl.guard rfl rfl (fun hb7 => ?_) (fun hb7 => ?_)
      · replace h := h.1 hb7
        refine mvZ (eErr 107 r8) rfl ?_
        refine Wl.guardT rfl rfl hb7 ?_
        refine wZ rg (o_isnil td31 (E := 107) rfl rfl rfl (wZ rg (o_pickT rfl hb7 (v := .bool (Option.isNone r8)) rfl (mvZ (.bool (Option.isNone r8)) rfl ?_))))
        refine Wl.guard rfl rfl (fun hb8 => ?_) (fun hb8 => ?_)
        · replace h := h.1 hb8
          refine mvZ (.bool r7) rfl ?_
          refine Wl.guardT rfl rfl hb8 ?_
          refine mvZ (.int .i64 r5) rfl ?_
          refine Wl.guardT rfl rfl hb8 ?_
          refine mvZ (.int .i64 (m.Phases.length : Int)) rfl ?_
          refine Wl.guardT rfl rfl hb8 ?_
          refine wZ rg (o_lss rfl rfl ?_)
          refine Wl.guardT rfl rfl hb8 ?_
          refine wZ rg (o_eqlB td4 rfl rfl (wZ rg (o_pickT rfl hb8 (v := .bool (r7 == (decide (r5 < (m.Phases.length : Int))))) rfl (asZ (.bool (r7 == (decide (r5 < (m.Phases.length : Int))))) rfl (nZ ?_)))))
          refine Vc.ret' ?_
          refine res_tmp (v := .bool (r7 == (decide (r5 < (m.Phases.length : Int))))) rfl (res_nil ?_)
          show Gives _ (.bool (r7 == (decide (r5 < (m.Phases.length : Int))))) _
          exact gives_out hrg (VW.refl _) (hQ _ h)
        replace h := h.2 hb8
        refine Wl.guardF rfl rfl hb8 rfl ?_
        refine Wl.guardF rfl rfl hb8 rfl ?_
        refine Wl.guardF rfl rfl hb8 rfl ?_
        refine Wl.guardF rfl rfl hb8 rfl ?_
        refine wZ rg (o_pickF rfl hb8 (v := .bool false) rfl (asZ (.bool false) rfl (nZ ?_)))
        refine Vc.ret' ?_
        refine res_tmp (v := .bool false) rfl (res_nil ?_)
        show Gives _ (.bool false) _
        exact gives_out hrg (VW.refl _) (hQ _ h)
      replace h := h.2 hb7
      refine Wl.guardF rfl rfl hb7 rfl ?_
      refine wZ rg (o_pickF rfl hb7 (v := .bool false) rfl (mvZ (.bool false) rfl ?_))
      refine Wl.guardF rfl rfl rfl rfl ?_
      refine Wl.guardF rfl rfl rfl rfl ?_
      refine Wl.guardF rfl rfl rfl rfl ?_
      refine Wl.guardF rfl rfl rfl rfl ?_
      refine Wl.guardF rfl rfl rfl rfl ?_
      refine wZ rg (o_pickF rfl rfl (v := .bool false) rfl (asZ (.bool false) rfl (nZ ?_)))
      refine Vc.ret' ?_
      refine res_tmp (v := .bool false) rfl (res_nil ?_)
      show Gives _ (.bool false) _
      exact gives_out hrg (VW.refl _) (hQ _ h)
    replace h := h.1 hb1
    refine Wl.guardF rfl rfl hb1 rfl ?_
    refine Wl.guardF rfl rfl hb1 rfl ?_
    refine Wl.guardF rfl rfl hb1 rfl ?_
    refine Wl.guardF rfl rfl hb1 rfl ?_
    refine Wl.guardF rfl rfl hb1 rfl ?_
    refine wZ rg (o_pickT rfl hb1 (v := .bool true) rfl (nZ ?_))
    refine Vc.cond' rfl (fun _ => ?_) (fun hb => Bool.noConfusion hb)
    refine qZ (rZ (asZ (.bool true) rfl (nZ ?_)))
    refine Vc.ret' ?_
    refine res_tmp (v := .bool true) rfl (res_nil ?_)
    show Gives _ (.bool true) _
    exact gives_out hrg (VW.refl _) (hQ _ h)
  refine rZ ?_
  refine wZ rg (o_call (us := []) rfl (vn) (law46_awake_ctr h fun r9 h => (wZ rg (o_not rfl (mvZ (.bool (!r9)) rfl ?_)))))
  refine Wl.guard rfl rfl (fun hb9 => ?_) (fun hb9 => ?_)
  · replace h := h.2 hb9
    refine wZ rg (o_loadBA (atL (k := 2) rfl) sz94 (by decide) ag94 rfl rfl (v := eMission m) rfl ?_)
    refine Wl.guardT rfl rfl hb9 ?_
    refine wZ rg (o_call (us := [eMission m]) rfl (vl' vr (vn)) (law46_large_ctr h fun r10 h => (wZ rg (o_pickF rfl hb9 (v := .bool r10) rfl (mvZ (.bool r10) rfl ?_)))))
    refine Wl.guard rfl rfl (fun hb10 => ?_) (fun hb10 => ?_)
    · replace h := h.2 hb10
      refine wZ rg (o_loadBA (atL (k := 2) rfl) sz94 (by decide) ag94 rfl rfl (v := eMission m) rfl ?_)
      refine Wl.guardT rfl rfl hb10 ?_
      refine wZ rg (o_call (us := [eMission m]) rfl (vl' vr (vn)) (ref46_Check_ctr h fun r11 h => ?_))
      refine Wl.guardT rfl rfl hb10 ?_
      refine wZ rg (o_neq rfl rfl (wZ rg (o_pickF rfl hb10 (v := .bool (r11 != 0)) rfl (nZ ?_))))
      exact ⟨((r11 != 0), g1), (canon (fc vr (fc vr (fc vr (fn)))) (sc rfl (sn))), h⟩
    replace h := h.1 hb10
    refine Wl.guardF rfl rfl hb10 rfl ?_
    refine Wl.guardF rfl rfl hb10 rfl ?_
    refine wZ rg (o_pickT rfl hb10 (v := .bool true) rfl (nZ ?_))
    exact ⟨(true, g1), (canon (fc vr (fc vr (fc vr (fn)))) (sc rfl (sn))), h⟩
  replace h := h.1 hb9
  refine Wl.guardF rfl rfl hb9 rfl ?_
  refine wZ rg (o_pickT rfl hb9 (v := .bool true) rfl (mvZ (.bool true) rfl ?_))
  refine Wl.guardF rfl rfl rfl rfl ?_
  refine Wl.guardF rfl rfl rfl rfl ?_
  refine Wl.guardF rfl rfl rfl rfl ?_
  refine wZ rg (o_pickT rfl rfl (v := .bool true) rfl (nZ ?_))
  exact ⟨(true, g1), (canon (fc vr (fc vr (fc vr (fn)))) (sc rfl (sn))), h⟩
end Go.Proofs.Ytonbnfgknijpoaa
