/- Walks of functions. Conditions: none. -/
import Derived.Test.YtonbnfgknijpoaaWLPhasesGrows
import Derived.Test.YtonbnfgknijpoaaGgTy
import Derived.Test.YtonbnfgknijpoaaKB
import Derived.Test.YtonbnfgknijpoaaKH46
import Derived.Test.YtonbnfgknijpoaaKPphases
import Derived.Test.YtonbnfgknijpoaaKPphasesb
import Derived.Test.YtonbnfgknijpoaaKR33
import Derived.Test.YtonbnfgknijpoaaKR46b
namespace Go.Proofs.Ytonbnfgknijpoaa
open Go.Gg
set_option maxRecDepth 100000
theorem law46_PhasesGrows_ctr {m : GMission} {h1 : List Int} {later : List Int} {Q : Bool → Prop} {S : St} {R : AV → St → Prop} (h : law46_PhasesGrows_W m h1 later Q) (hQ : ∀ r1, Q r1 → R (AV.bool r1) S) :
    Ctr Try.prog 20 [eMission m, eL (AV.int .i64) h1, eL (AV.int .i64) later] S R := by
  unfold law46_PhasesGrows_W at h
  refine enterT Try.func20 rfl Try.ntmps20 Try.results20 (by kernel_rfl) (fun rg hrg => ?_)
  refine qZ (rZ (wZ rg (o_box (v := eMission m) rfl rfl (kk := 2) rfl (by decide) (fun g1 => (asZ (.bool false) rfl (nZ (qZ ?_)))))))
  obtain ⟨J, h, hJ⟩ := h
  refine Vc.join' (σ := ((Bool) × (Nat))) (fun y => J y.1) (fun y => envOf [(1, eL (AV.int .i64) h1), (2, eL (AV.int .i64) later), (3, .ptr rg 3 y.2 0 0), (34, .bool y.1)]) (fun y => stL S rg [(3, .arr 2 [eMission m], y.2)]) (fun y h => ?_) ?_
  · obtain ⟨x, g2⟩ := y
    replace h := hJ x h
    show Vc _ _ _ _ (envOf [(1, eL (AV.int .i64) h1), (2, eL (AV.int .i64) later), (3, .ptr rg 3 g2 0 0), (34, .bool x)]) (stL S rg [(3, .arr 2 [eMission m], g2)])
    refine Vc.cond' rfl (fun hb => ?_) (fun hb => ?_)
    · replace h := h.1 hb
      refine qZ (rZ (wZ rg (o_call (us := []) rfl (vn) (law46_awake_ctr h fun r h => (asZ (.bool r) rfl (nZ ?_))))))
      refine Vc.ret' ?_
      refine res_tmp (v := .bool r) rfl (res_nil ?_)
      show Gives _ (.bool r) _
      exact gives_out hrg (VW.refl _) (hQ _ h)
    replace h := h.2 hb
    refine Vc.skip' ?_
    refine qZ (rZ (asZ (.int .i64 0) rfl (nZ (qZ (qZ (rZ (asZ (.int .i64 0) rfl (nZ ?_))))))))
    refine Vc.blk ?_
    obtain ⟨I, μ, h0, hI⟩ := h
    refine Vc.loop' (σ := (Int × Int)) (fun y => I y) (fun y => μ y) (fun y => envOf [(1, eL (AV.int .i64) h1), (2, eL (AV.int .i64) later), (3, .ptr rg 3 g2 0 0), (7, .int .i64 y.1), (8, .int .i64 y.2)]) (fun y => stL S rg [(3, .arr 2 [eMission m], g2)]) (0, 0) (canon (fc vr (fc vr (fc vr (fc vr (fc vr (fn)))))) (sc rfl (sn))) h0 (fun y h => ?_)
    obtain ⟨before, j⟩ := y
    replace h := hI (before, j) h
    show Vc _ _ _ _ (envOf [(1, eL (AV.int .i64) h1), (2, eL (AV.int .i64) later), (3, .ptr rg 3 g2 0 0), (7, .int .i64 before), (8, .int .i64 j)]) (stL S rg [(3, .arr 2 [eMission m], g2)])
    refine qZ (qZ (rZ (mvZ (.int .i64 j) rfl (wZ rg (o_faP td94 rfl rfl (by rw [sz91]; decide) rfl (wZ rg (o_loadB1 (atL (k := 3) rfl) sz91 ag91 rfl rfl (v := eL eFormula m.Phases) rfl (wZ rg (o_len td91 rfl (wZ rg (o_lss rfl rfl (nZ ?_))))))))))))
    refine Vc.cond' rfl (fun hb1 => ?_) (fun hb1 => ?_)
    · replace h := h.1 hb1
      refine Vc.skip' ?_
      refine qZ ?_
      refine Vc.blk ?_
      refine qZ (rZ (wZ rg (o_loadBA (atL (k := 3) rfl) sz94 (by decide) ag94 rfl rfl (v := eMission m) rfl (mvZ (eL (AV.int .i64) h1) rfl (mvZ (.int .i64 j) rfl (wZ rg (o_call (us := [eMission m, eL (AV.int .i64) h1, AV.int .i64 j]) rfl (vl' vr (vl' vr (vl' vr (vn)))) (phases_Failed_ctr h fun r1 r2 h => (mvZ (.tuple [.int .i64 r1, eErr 107 r2]) rfl (wZ rg (o_extract (v := .int .i64 r1) rfl rfl rfl ?_)))))))))))
      refine wZ rg (o_extract (v := eErr 107 r2) rfl rfl rfl (asZ (.int .i64 r1) rfl (asZ (eErr 107 r2) rfl (nZ (qZ (qZ (rZ (mvZ (eErr 107 r2) rfl (wZ rg (o_isnon td31 (E := 107) rfl rfl rfl (mvZ (.bool (Option.isSome r2)) rfl ?_)))))))))))
      refine Wl.guard rfl rfl (fun hb2 => ?_) (fun hb2 => ?_)
      · replace h := h.2 hb2
        refine mvZ (.int .i64 before) rfl ?_
        refine Wl.guardT rfl rfl hb2 ?_
        refine mvZ (.int .i64 r1) rfl ?_
        refine Wl.guardT rfl rfl hb2 ?_
        refine wZ rg (o_andNot rfl rfl ?_)
        refine Wl.guardT rfl rfl hb2 ?_
        refine wZ rg (o_neq rfl rfl (wZ rg (o_pickF rfl hb2 (v := .bool ((bits .andNot .i64 before r1) != 0)) rfl (nZ ?_))))
        refine Vc.cond' rfl (fun hb3 => ?_) (fun hb3 => ?_)
        · replace h := h.1 hb3
          refine qZ (rZ (asZ (.bool false) rfl (nZ ?_)))
          refine Vc.ret' ?_
          refine res_tmp (v := .bool false) rfl (res_nil ?_)
          show Gives _ (.bool false) _
          exact gives_out hrg (VW.refl _) (hQ _ h)
        replace h := h.2 hb3
        refine Vc.skip' ?_
        refine rZ ?_
        refine mvZ (.int .i64 r1) rfl (asZ (.int .i64 r1) rfl (nZ (rZ (mvZ (.int .i64 j) rfl (wZ rg (o_addG rfl rfl h.1 ?_))))))
        replace h := h.2
        refine asZ (.int .i64 (j + 1)) rfl (nZ ?_)
        exact ⟨(r1, (j + 1)), (canon (fc vr (fc vr (fc vr (fc vr (fc vr (fn)))))) (sc rfl (sn))), h⟩
      replace h := h.1 hb2
      refine Wl.guardF rfl rfl hb2 rfl ?_
      refine Wl.guardF rfl rfl hb2 rfl ?_
      refine Wl.guardF rfl rfl hb2 rfl ?_
      refine wZ rg (o_pickT rfl hb2 (v := .bool true) rfl (nZ ?_))
      refine Vc.cond' rfl (fun _ => ?_) (fun hb => Bool.noConfusion hb)
      refine qZ (rZ (asZ (.bool false) rfl (nZ ?_)))
      refine Vc.ret' ?_
      refine res_tmp (v := .bool false) rfl (res_nil ?_)
      show Gives _ (.bool false) _
      exact gives_out hrg (VW.refl _) (hQ _ h)
    replace h := h.2 hb1
    refine Vc.exit' (exB_self ?_)
    refine qZ (qZ (rZ (asZ (.int .i64 0) rfl (nZ ?_))))
    refine Vc.blk ?_
    obtain ⟨I, μ, h0, hI⟩ := h
    refine Vc.loop' (σ := (Int)) (fun y => I y) (fun y => μ y) (fun y => envOf [(1, eL (AV.int .i64) h1), (2, eL (AV.int .i64) later), (3, .ptr rg 3 g2 0 0), (11, .int .i64 y)]) (fun y => stL S rg [(3, .arr 2 [eMission m], g2)]) 0 (canon (fc vr (fc vr (fc vr (fc vr (fn))))) (sc rfl (sn))) h0 (fun j1 h => ?_)
    replace h := hI j1 h
    show Vc _ _ _ _ (envOf [(1, eL (AV.int .i64) h1), (2, eL (AV.int .i64) later), (3, .ptr rg 3 g2 0 0), (11, .int .i64 j1)]) (stL S rg [(3, .arr 2 [eMission m], g2)])
    refine qZ (qZ (rZ (mvZ (.int .i64 j1) rfl (wZ rg (o_faP td94 rfl rfl (by rw [sz91]; decide) rfl (wZ rg (o_loadB1 (atL (k := 3) rfl) sz91 ag91 rfl rfl (v := eL eFormula m.Phases) rfl (wZ rg (o_len td91 rfl (wZ rg (o_lss rfl rfl (nZ ?_))))))))))))
    refine Vc.cond' rfl (fun hb4 => ?_) (fun hb4 => ?_)
    · replace h := h.1 hb4
      refine Vc.skip' ?_
      refine qZ ?_
      refine Vc.blk ?_
      refine qZ (rZ (wZ rg (o_faP td94 rfl rfl (by rw [sz91]; decide) rfl (wZ rg (o_loadB1 (atL (k := 3) rfl) sz91 ag91 rfl rfl (v := eL eFormula m.Phases) rfl (mvZ (.int .i64 j1) rfl (wZ rg (o_idxL td91 sz70 (by decide) (fun _ => rfl) rfl rfl h.1 ?_))))))))
      replace h := h.2
      refine wZ rg (o_loadIA sz70 (by decide) ag70 rfl rfl (v := eFormula (at' m.Phases j1)) rfl (wZ rg (o_call (us := [eFormula (at' m.Phases j1)]) rfl (vl' vr (vn)) (ref33_Coherent_ctr h fun r3 h => (wZ rg (o_not rfl (nZ ?_)))))))
      refine Vc.cond' rfl (fun hb5 => ?_) (fun hb5 => ?_)
      · replace h := h.1 hb5
        refine qZ (rZ (asZ (.bool true) rfl (nZ ?_)))
        refine Vc.ret' ?_
        refine res_tmp (v := .bool true) rfl (res_nil ?_)
        show Gives _ (.bool true) _
        exact gives_out hrg (VW.refl _) (hQ _ h)
      replace h := h.2 hb5
      refine Vc.skip' ?_
      refine rZ ?_
      refine mvZ (.int .i64 j1) rfl (wZ rg (o_addG rfl rfl h.1 ?_))
      replace h := h.2
      refine asZ (.int .i64 (j1 + 1)) rfl (nZ ?_)
      exact ⟨(j1 + 1), (canon (fc vr (fc vr (fc vr (fc vr (fn))))) (sc rfl (sn))), h⟩
    replace h := h.2 hb4
    refine Vc.exit' (exB_self ?_)
    refine qZ (rZ (wZ rg (o_bslice td76 ok3 zav3 (es := []) rfl (kk := 1) rfl rfl rfl rfl rfl rfl (fun g3 => (mvZ (eL (AV.int .i64) h1) rfl (wZ rg (o_appR td76 bts3 ok3 zav3 (es := []) (xs := h1) (enc := AV.int .i64) (atL (k := 73) rfl) (by first | rfl | omega | (simp only [go_sem] <;> omega)) (rfl) (kk := 1) rfl rfl (fun _ => rfl) (fun _ => rfl) h.1 rfl (fun _ => setL) (fun g4 => ?_))))))))
    replace h := h.2
    refine asZ (.sl 1 rg 73 g4 0 (([] ++ h1).length)) rfl (nZ ?_)
    obtain ⟨J, h, hJ⟩ := h
    refine Vc.join' (σ := (((List Int)) × (Nat × Nat))) (fun y => J y.1) (fun y => envOf [(1, eL (AV.int .i64) h1), (3, .ptr rg 3 y.2.1 0 0), (12, .sl 1 rg 73 y.2.2 0 y.1.length)]) (fun y => stL S rg [(3, .arr 2 [eMission m], y.2.1), (73, .arr 1 (List.map (AV.int .i64) y.1), y.2.2)]) (fun y h => ?_) ?_
    · obtain ⟨l, ⟨g5, g6⟩⟩ := y
      replace h := hJ l h
      show Vc _ _ _ _ (envOf [(1, eL (AV.int .i64) h1), (3, .ptr rg 3 g5 0 0), (12, .sl 1 rg 73 g6 0 l.length)]) (stL S rg [(3, .arr 2 [eMission m], g5), (73, .arr 1 (List.map (AV.int .i64) l), g6)])
      refine qZ (rZ (wZ rg (o_loadBA (atL (k := 3) rfl) sz94 (by decide) ag94 rfl rfl (v := eMission m) rfl (mvZ (eL (AV.int .i64) h1) rfl (wZ rg (o_call (us := [eMission m, eL (AV.int .i64) h1]) rfl (vl' vr (vl' vr (vn))) (phases_Fails_ctr h fun r4 r5 h => (mvZ (.tuple [.int .i64 r4, eErr 107 r5]) rfl (wZ rg (o_extract (v := .int .i64 r4) rfl rfl rfl (wZ rg (o_extract (v := eErr 107 r5) rfl rfl rfl ?_))))))))))))
      refine asZ (.int .i64 r4) rfl (asZ (eErr 107 r5) rfl (nZ (qZ (rZ (wZ rg (o_loadBA (atL (k := 3) rfl) sz94 (by decide) ag94 rfl rfl (v := eMission m) rfl (mvZ (.sl 1 rg 73 g6 0 l.length) rfl ?_)))))))
      refine Wl.wk (canon_freeze (k := 73) (xs := List.map (AV.int .i64) l) rfl (es := [(14, .int .i64 r4), (15, eErr 107 r5), (111, eMission m), (112, eL (AV.int .i64) l)]) (fc vr (fc (fzE0) (fc vr (fc (frz_full rfl) (fn))))) (m := []) (sn)) ?_
      refine wZ rg (o_call (us := [eMission m, eL (AV.int .i64) l]) rfl (vl' vr (vl' vr (vn))) (phases_Fails_ctr h fun r6 r7 h => (mvZ (.tuple [.int .i64 r6, eErr 107 r7]) rfl (wZ rg (o_extract (v := .int .i64 r6) rfl rfl rfl (wZ rg (o_extract (v := eErr 107 r7) rfl rfl rfl (asZ (.int .i64 r6) rfl (asZ (eErr 107 r7) rfl (nZ (qZ (rZ (mvZ (eErr 107 r5) rfl (wZ rg (o_isnil td31 (E := 107) rfl rfl rfl ?_)))))))))))))))
      refine mvZ (.bool (Option.isNone r5)) rfl ?_
      refine Wl.guard rfl rfl (fun hb6 => ?_) (fun hb6 => ?_)
      · replace h := h.1 hb6
        refine mvZ (eErr 107 r7) rfl ?_
        refine Wl.guardT rfl rfl hb6 ?_
        refine wZ rg (o_isnil td31 (E := 107) rfl rfl rfl (wZ rg (o_pickT rfl hb6 (v := .bool (Option.isNone r7)) rfl (mvZ (.bool (Option.isNone r7)) rfl ?_))))
        refine Wl.guard rfl rfl (fun hb7 => ?_) (fun hb7 => ?_)
        · replace h := h.1 hb7
          refine mvZ (.int .i64 r4) rfl ?_
          refine Wl.guardT rfl rfl hb7 ?_
          refine mvZ (.int .i64 r6) rfl ?_
          refine Wl.guardT rfl rfl hb7 ?_
          refine wZ rg (o_leq rfl rfl (wZ rg (o_pickT rfl hb7 (v := .bool (decide (r4 ≤ r6))) rfl (asZ (.bool (decide (r4 ≤ r6))) rfl (nZ ?_)))))
          refine Vc.ret' ?_
          refine res_tmp (v := .bool (decide (r4 ≤ r6))) rfl (res_nil ?_)
          show Gives _ (.bool (decide (r4 ≤ r6))) _
          exact gives_out hrg (VW.refl _) (hQ _ h)
        replace h := h.2 hb7
        refine Wl.guardF rfl rfl hb7 rfl ?_
        refine Wl.guardF rfl rfl hb7 rfl ?_
        refine wZ rg (o_pickF rfl hb7 (v := .bool false) rfl (asZ (.bool false) rfl (nZ ?_)))
        refine Vc.ret' ?_
        refine res_tmp (v := .bool false) rfl (res_nil ?_)
        show Gives _ (.bool false) _
        exact gives_out hrg (VW.refl _) (hQ _ h)
      replace h := h.2 hb6
      refine Wl.guardF rfl rfl hb6 rfl ?_
      refine wZ rg (o_pickF rfl hb6 (v := .bool false) rfl (mvZ (.bool false) rfl ?_))
      refine Wl.guardF rfl rfl rfl rfl ?_
      refine Wl.guardF rfl rfl rfl rfl ?_
      refine Wl.guardF rfl rfl rfl rfl ?_
      refine wZ rg (o_pickF rfl rfl (v := .bool false) rfl (asZ (.bool false) rfl (nZ ?_)))
      refine Vc.ret' ?_
      refine res_tmp (v := .bool false) rfl (res_nil ?_)
      show Gives _ (.bool false) _
      exact gives_out hrg (VW.refl _) (hQ _ h)
    refine qZ (rZ (asZ (.int .i64 0) rfl (nZ ?_)))
    refine Vc.blk ?_
    obtain ⟨I, μ, h0, hI⟩ := h
    refine Vc.loop' (σ := (Int × (List Int))) (fun y => I y) (fun y => μ y) (fun y => envOf [(1, eL (AV.int .i64) h1), (2, eL (AV.int .i64) later), (3, .ptr rg 3 g2 0 0), (12, .sl 1 rg 73 g4 0 y.2.length), (13, .int .i64 y.1)]) (fun y => stL S rg [(3, .arr 2 [eMission m], g2), (73, .arr 1 (List.map (AV.int .i64) y.2), g4)]) (0, ([] ++ h1)) (canon (fc vr (fc vr (fc vr (fc vr (fc vr (fn)))))) (sc rfl (sc rfl (sn)))) h0 (fun y h => ?_)
    obtain ⟨i, l1⟩ := y
    replace h := hI (i, l1) h
    show Vc _ _ _ _ (envOf [(1, eL (AV.int .i64) h1), (2, eL (AV.int .i64) later), (3, .ptr rg 3 g2 0 0), (12, .sl 1 rg 73 g4 0 l1.length), (13, .int .i64 i)]) (stL S rg [(3, .arr 2 [eMission m], g2), (73, .arr 1 (List.map (AV.int .i64) l1), g4)])
    refine qZ (qZ (rZ (mvZ (.int .i64 i) rfl (mvZ (.sl 1 rg 73 g4 0 l1.length) rfl (wZ rg (o_lenR td76 rfl (wZ rg (o_lss rfl rfl (mvZ (.bool (decide (i < (l1.length : Int)))) rfl ?_)))))))))
    refine Wl.guard rfl rfl (fun hb8 => ?_) (fun hb8 => ?_)
    · replace h := h.1 hb8
      refine mvZ (.int .i64 i) rfl ?_
      refine Wl.guardT rfl rfl hb8 ?_
      refine mvZ (eL (AV.int .i64) later) rfl ?_
      refine Wl.guardT rfl rfl hb8 ?_
      refine wZ rg (o_len td76 rfl ?_)
      refine Wl.guardT rfl rfl hb8 ?_
      refine wZ rg (o_lss rfl rfl (wZ rg (o_pickT rfl hb8 (v := .bool (decide (i < (later.length : Int)))) rfl (nZ ?_))))
      refine Vc.cond' rfl (fun hb9 => ?_) (fun hb9 => ?_)
      · replace h := h.1 hb9
        refine Vc.skip' ?_
        refine qZ ?_
        refine Vc.blk ?_
        have hi := h.1
        replace h := h.2
        have hg := h.1
        replace h := h.2
        obtain ⟨r8, hc, h⟩ := h
        have hi1 := h.1
        replace h := h.2
        refine Vc.drawn' mixed rg (usOf [(14, pc (.int .i64 r8))]) (by kernel_rfl) ?_
        refine dP rfl rfl (o_move (v := .sl 1 rg 73 g4 0 l1.length) rfl (dP rfl rfl (o_move (v := .int .i64 i) rfl (dP rfl rfl (o_move (v := .sl 1 rg 73 g4 0 l1.length) rfl (dP rfl rfl (o_move (v := .int .i64 i) rfl (dP rfl rfl (o_idxR0 td76 sz3 (by decide) rfl rfl hi ?_)))))))))
        refine dL (E := ([(rg, 73)], [])) rfl rfl (by simp) (cfn) (o_loadR1 (atL (k := 73) rfl) sz3 ag3 rfl (lt_of hi (by first | rfl | omega | (simp only [go_sem] <;> omega))) rfl (v := .int .i64 (at' l1 i)) rfl (dP rfl rfl (o_move (v := eL (AV.int .i64) later) rfl (dP rfl rfl (o_move (v := .int .i64 i) rfl (dP rfl rfl (o_idxL td76 sz3 (by decide) (fun _ => rfl) rfl rfl hg ?_)))))))
        refine dP rfl rfl (o_loadI1 sz3 ag3 rfl rfl (v := .int .i64 (at' later i)) rfl (dP rfl rfl (o_max rfl rfl (dP rfl rfl (o_faP td94 rfl rfl (by rw [sz91]; decide) rfl (dL (E := ([(rg, 3)], [])) rfl rfl (by simp) (cfa (by simp [apartE]) (cfn)) (o_loadB1 (atL (k := 3) rfl) sz91 ag91 rfl rfl (v := eL eFormula m.Phases) rfl (dP rfl rfl (o_len td91 rfl ?_)))))))))
        refine dC (vs := [AV.int .i64 (max (at' l1 i) (at' later i)), AV.int .i64 0, AV.int .i64 (m.Phases.length : Int)]) rfl (vl' vr (vl' vr (vl' vr (vn)))) (fun _ => base_Clip_ctr hc (fun _ hr => ⟨by rw [hr], rfl⟩)) rfl ?_
        refine dP rfl rfl (o_idxR0 td76 sz3 (by decide) rfl rfl hi1 (dL (E := ([], [(rg, 73)])) rfl rfl (by simp) (cfo (by kernel_rfl) (cfo (by kernel_rfl) (cfn))) (o_storeR1 (atL (k := 73) rfl) sz3 (by decide) (x' := r8) (fun _ => rfl) rfl rfl (lt_of hi1 (by first | rfl | omega | (simp only [go_sem] <;> omega))) rfl rfl setL (dN (rZ (mvZ (.int .i64 i) rfl (wZ rg (o_addG rfl rfl h.1 ?_))))))))
        replace h := h.2
        refine asZ (.int .i64 (i + 1)) rfl (nZ ?_)
        exact ⟨((i + 1), (set' l1 i r8)), (canon (fc vr (fc vr (fc vr (fc (VW.slen (by first | rfl | omega | (simp only [go_sem] <;> omega))) (fc vr (fn)))))) (sc rfl (sc rfl (sn)))), h⟩
      replace h := h.2 hb9
      refine Vc.exit' (exB_self ?_)
      exact ⟨(l1, (g2, g4)), (canon (fc vr (fc vr (fc vr (fn)))) (sc rfl (sc rfl (sn)))), h⟩
    replace h := h.2 hb8
    refine Wl.guardF rfl rfl hb8 rfl ?_
    refine Wl.guardF rfl rfl hb8 rfl ?_
    refine Wl.guardF rfl rfl hb8 rfl ?_
    refine wZ rg (o_pickF rfl hb8 (v := .bool false) rfl (nZ ?_))
    refine Vc.cond' rfl (fun hb => Bool.noConfusion hb) (fun _ => ?_)
    refine Vc.exit' (exB_self ?_)
    exact ⟨(l1, (g2, g4)), (canon (fc vr (fc vr (fc vr (fn)))) (sc rfl (sc rfl (sn)))), h⟩
  refine rZ ?_
  refine wZ rg (o_call (us := []) rfl (vn) (law46_awake_ctr h fun r9 h => (wZ rg (o_not rfl (mvZ (.bool (!r9)) rfl ?_)))))
  refine Wl.guard rfl rfl (fun hb10 => ?_) (fun hb10 => ?_)
  · replace h := h.2 hb10
    refine wZ rg (o_loadBA (atL (k := 3) rfl) sz94 (by decide) ag94 rfl rfl (v := eMission m) rfl ?_)
    refine Wl.guardT rfl rfl hb10 ?_
    refine wZ rg (o_call (us := [eMission m]) rfl (vl' vr (vn)) (law46_large_ctr h fun r10 h => (wZ rg (o_pickF rfl hb10 (v := .bool r10) rfl (mvZ (.bool r10) rfl ?_)))))
    refine Wl.guard rfl rfl (fun hb11 => ?_) (fun hb11 => ?_)
    · replace h := h.2 hb11
      refine mvZ (eL (AV.int .i64) h1) rfl ?_
      refine Wl.guardT rfl rfl hb11 ?_
      refine wZ rg (o_len td76 rfl ?_)
      refine Wl.guardT rfl rfl hb11 ?_
      refine wZ rg (o_gtr rfl rfl (wZ rg (o_pickF rfl hb11 (v := .bool (decide (100 < (h1.length : Int)))) rfl (mvZ (.bool (decide (100 < (h1.length : Int)))) rfl ?_))))
      refine Wl.guard rfl rfl (fun hb12 => ?_) (fun hb12 => ?_)
      · replace h := h.2 hb12
        refine wZ rg (o_loadBA (atL (k := 3) rfl) sz94 (by decide) ag94 rfl rfl (v := eMission m) rfl ?_)
        refine Wl.guardT rfl rfl hb12 ?_
        refine mvZ (eL (AV.int .i64) h1) rfl ?_
        refine Wl.guardT rfl rfl hb12 ?_
        refine wZ rg (o_call (us := [eMission m, eL (AV.int .i64) h1]) rfl (vl' vr (vl' vr (vn))) (ref46_CheckHistory_ctr h fun r11 h => ?_))
        refine Wl.guardT rfl rfl hb12 ?_
        refine wZ rg (o_neq rfl rfl (wZ rg (o_pickF rfl hb12 (v := .bool (r11 != 0)) rfl (nZ ?_))))
        exact ⟨((r11 != 0), g1), (canon (fc vr (fc vr (fc vr (fc vr (fn))))) (sc rfl (sn))), h⟩
      replace h := h.1 hb12
      refine Wl.guardF rfl rfl hb12 rfl ?_
      refine Wl.guardF rfl rfl hb12 rfl ?_
      refine Wl.guardF rfl rfl hb12 rfl ?_
      refine wZ rg (o_pickT rfl hb12 (v := .bool true) rfl (nZ ?_))
      exact ⟨(true, g1), (canon (fc vr (fc vr (fc vr (fc vr (fn))))) (sc rfl (sn))), h⟩
    replace h := h.1 hb11
    refine Wl.guardF rfl rfl hb11 rfl ?_
    refine Wl.guardF rfl rfl hb11 rfl ?_
    refine wZ rg (o_pickT rfl hb11 (v := .bool true) rfl (mvZ (.bool true) rfl ?_))
    refine Wl.guardF rfl rfl rfl rfl ?_
    refine Wl.guardF rfl rfl rfl rfl ?_
    refine Wl.guardF rfl rfl rfl rfl ?_
    refine Wl.guardF rfl rfl rfl rfl ?_
    refine wZ rg (o_pickT rfl rfl (v := .bool true) rfl (nZ ?_))
    exact ⟨(true, g1), (canon (fc vr (fc vr (fc vr (fc vr (fn))))) (sc rfl (sn))), h⟩
  replace h := h.1 hb10
  refine Wl.guardF rfl rfl hb10 rfl ?_
  refine wZ rg (o_pickT rfl hb10 (v := .bool true) rfl (mvZ (.bool true) rfl ?_))
  refine Wl.guardF rfl rfl rfl rfl ?_
  refine Wl.guardF rfl rfl rfl rfl ?_
  refine Wl.guardF rfl rfl rfl rfl ?_
  refine wZ rg (o_pickT rfl rfl (v := .bool true) rfl (mvZ (.bool true) rfl ?_))
  refine Wl.guardF rfl rfl rfl rfl ?_
  refine Wl.guardF rfl rfl rfl rfl ?_
  refine Wl.guardF rfl rfl rfl rfl ?_
  refine Wl.guardF rfl rfl rfl rfl ?_
  refine wZ rg (o_pickT rfl rfl (v := .bool true) rfl (nZ ?_))
  exact ⟨(true, g1), (canon (fc vr (fc vr (fc vr (fc vr (fn))))) (sc rfl (sn))), h⟩
end Go.Proofs.Ytonbnfgknijpoaa
