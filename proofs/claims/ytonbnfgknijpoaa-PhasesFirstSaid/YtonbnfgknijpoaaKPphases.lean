/- Walks of functions. Conditions: none. -/
import Derived.Test.YtonbnfgknijpoaaWPphases
import Derived.Test.YtonbnfgknijpoaaGgTy
import Derived.Test.YtonbnfgknijpoaaGd
import Derived.Test.YtonbnfgknijpoaaKB
import Derived.Test.YtonbnfgknijpoaaKBk
import Derived.Test.YtonbnfgknijpoaaKF
import Derived.Test.YtonbnfgknijpoaaKS
namespace Go.Proofs.Ytonbnfgknijpoaa
open Go.Gg
set_option maxRecDepth 100000
theorem phases_Check_1_ctr {x : GRat} {Q : Bool → Prop} {S : St} {R : AV → St → Prop} (h : phases_Check_1_W x Q) (hQ : ∀ r1, Q r1 → R (AV.bool r1) S) :
    Ctr Try.prog 126 [eRat x] S R := by
  unfold phases_Check_1_W at h
  refine enterT Try.func126 rfl Try.ntmps126 Try.results126 (by kernel_rfl) (fun rg hrg => ?_)
  refine qZ (rZ (wZ rg (o_box (v := eRat x) rfl rfl (kk := 3) rfl (by decide) (fun g1 => (asZ (.bool false) rfl (nZ (qZ (rZ (wZ rg (o_loadBA (atL (k := 1) rfl) sz27 (by decide) ag27 rfl rfl (v := eRat x) rfl (wZ rg (o_call (us := [eRat x]) rfl (vl' vr (vn)) (rational_Prob_ctr h fun r h => (wZ rg (o_not rfl (asZ (.bool (!r)) rfl (nZ ?_)))))))))))))))))
  refine Vc.ret' ?_
  refine res_tmp (v := .bool (!r)) rfl (res_nil ?_)
  show Gives _ (.bool (!r)) _
  exact gives_out hrg (VW.refl _) (hQ _ h)
theorem slices_IndexFunc___api_Rat_api_Rat__phases_Check_1_ctr {s : List GRat} {Q : Int → Prop} {S : St} {R : AV → St → Prop} (h : slices_IndexFunc___api_Rat_api_Rat__phases_Check_1_W s Q) (hQ : ∀ r1, Q r1 → R (AV.int .i64 r1) S) :
    Ctr Try.prog 161 [eL eRat s, .fn (.func 126) [] []] S R := by
  unfold slices_IndexFunc___api_Rat_api_Rat__phases_Check_1_W at h
  refine enterT Try.func161 rfl Try.ntmps161 Try.results161 (by kernel_rfl) (fun rg hrg => ?_)
  refine qZ (rZ (asZ (.int .i64 0) rfl (nZ (qZ (qZ (rZ (mvZ (eL eRat s) rfl (wZ rg (o_len td22 rfl (mvZ (.int .i64 0) rfl (nZ ?_)))))))))))
  refine Vc.blk ?_
  obtain ⟨I, μ, h0, hI⟩ := h
  refine Vc.loop' (σ := (Int)) (fun y => I y) (fun y => μ y) (fun y => envOf [(0, eL eRat s), (1, .fn (.func 126) [] []), (7, .int .i64 (s.length : Int)), (8, .int .i64 y)]) (fun y => stL S rg []) 0 (canon (fc vr (fc vr (fc vr (fc vr (fn))))) (sn)) h0 (fun x h => ?_)
  replace h := hI x h
  show Vc _ _ _ _ (envOf [(0, eL eRat s), (1, .fn (.func 126) [] []), (7, .int .i64 (s.length : Int)), (8, .int .i64 x)]) (stL S rg [])
  refine qZ (rZ (wZ rg (o_lss rfl rfl (nZ (qZ ?_)))))
  refine Vc.cond' rfl (fun hb => ?_) (fun hb => ?_)
  · replace h := h.1 hb
    refine Vc.skip' ?_
    refine qZ ?_
    refine Vc.blk ?_
    refine qZ (rZ (mvZ (.int .i64 x) rfl (asZ (.int .i64 x) rfl (nZ (qZ (rZ (mvZ (.fn (.func 126) [] []) rfl (mvZ (eL eRat s) rfl (mvZ (.int .i64 x) rfl (wZ rg (o_idxL td22 sz27 (by decide) (fun _ => rfl) rfl rfl h.1 ?_)))))))))))
    replace h := h.2
    refine wZ rg (o_loadIA sz27 (by decide) ag27 rfl rfl (v := eRat (at' s x)) rfl (wZ rg (o_call (us := [eRat (at' s x)]) rfl (vl' vr (vn)) (phases_Check_1_ctr h fun r h => (nZ ?_)))))
    refine Vc.cond' rfl (fun hb1 => ?_) (fun hb1 => ?_)
    · replace h := h.1 hb1
      refine qZ (rZ (mvZ (.int .i64 x) rfl (asZ (.int .i64 x) rfl (nZ ?_))))
      refine Vc.ret' ?_
      refine res_tmp (v := .int .i64 x) rfl (res_nil ?_)
      show Gives _ (.int .i64 x) _
      exact gives_out hrg (VW.refl _) (hQ _ h)
    replace h := h.2 hb1
    refine Vc.skip' ?_
    refine rZ ?_
    refine wZ rg (o_addG rfl rfl h.1 ?_)
    replace h := h.2
    refine mvZ (.int .i64 (x + 1)) rfl (nZ ?_)
    exact ⟨(x + 1), (canon (fc vr (fc vr (fc vr (fc vr (fn))))) (sn)), h⟩
  replace h := h.2 hb
  refine Vc.exit' (exB_self ?_)
  refine qZ (rZ (asZ (.int .i64 (-1)) rfl (nZ ?_)))
  refine Vc.ret' ?_
  refine res_tmp (v := .int .i64 (-1)) rfl (res_nil ?_)
  show Gives _ (.int .i64 (-1)) _
  exact gives_out hrg (VW.refl _) (hQ _ h)
theorem slices_ContainsFunc___api_Rat_api_Rat__phases_Check_1_ctr {s : List GRat} {Q : Bool → Prop} {S : St} {R : AV → St → Prop} (h : slices_ContainsFunc___api_Rat_api_Rat__phases_Check_1_W s Q) (hQ : ∀ r1, Q r1 → R (AV.bool r1) S) :
    Ctr Try.prog 125 [eL eRat s, .fn (.func 126) [] []] S R := by
  unfold slices_ContainsFunc___api_Rat_api_Rat__phases_Check_1_W at h
  refine enterT Try.func125 rfl Try.ntmps125 Try.results125 (by kernel_rfl) (fun rg hrg => ?_)
  refine qZ (rZ (asZ (.bool false) rfl (nZ (qZ (rZ (mvZ (eL eRat s) rfl (mvZ (.fn (.func 126) [] []) rfl (wZ rg (o_call (us := [eL eRat s, .fn (.func 126) [] []]) rfl (vl' vr (vl' vr (vn))) (slices_IndexFunc___api_Rat_api_Rat__phases_Check_1_ctr h fun r h => (wZ rg (o_geq rfl rfl (asZ (.bool (decide (0 ≤ r))) rfl (nZ ?_))))))))))))))
  refine Vc.ret' ?_
  refine res_tmp (v := .bool (decide (0 ≤ r))) rfl (res_nil ?_)
  show Gives _ (.bool (decide (0 ≤ r))) _
  exact gives_out hrg (VW.refl _) (hQ _ h)
theorem phases_Check_ctr {m : GMission} {Q : Option Int → Prop} {S : St} {R : AV → St → Prop} (h : phases_Check_W m Q) (hQ : ∀ r1, Q r1 → R (eErr 107 r1) S) :
    Ctr Try.prog 58 [eMission m] S R := by
  unfold phases_Check_W at h
  refine enterT Try.func58 rfl Try.ntmps58 Try.results58 (by kernel_rfl) (fun rg hrg => ?_)
  refine qZ (rZ (wZ rg (o_box (v := eMission m) rfl rfl (kk := 2) rfl (by decide) (fun g1 => (asZ .niface rfl (nZ (qZ (qZ (rZ (wZ rg (o_faP td94 rfl rfl (by rw [sz91]; decide) rfl (wZ rg (o_loadB1 (atL (k := 1) rfl) sz91 ag91 rfl rfl (v := eL eFormula m.Phases) rfl (wZ rg (o_len td91 rfl (asZ (.int .i64 (m.Phases.length : Int)) rfl (nZ ?_)))))))))))))))))
  refine Vc.blk ?_
  refine qZ (rZ (mvZ (.int .i64 (m.Phases.length : Int)) rfl (wZ rg (o_eql rfl rfl (asZ (.bool ((m.Phases.length : Int) == 0)) rfl (nZ ?_))))))
  refine Vc.cond' rfl (fun hb => ?_) (fun hb => ?_)
  · replace h := h.1 hb
    refine qZ (rZ (wZ rg (o_iface (by rw [td107]; trivial) (v := .int .i64 11) rfl (asZ (.iface 107 (.int .i64 11)) rfl (nZ ?_)))))
    refine Vc.ret' ?_
    refine res_tmp (v := .iface 107 (.int .i64 11)) rfl (res_nil ?_)
    show Gives _ (.iface 107 (.int .i64 11)) _
    exact gives_out hrg (VW.refl _) (hQ _ h)
  replace h := h.2 hb
  refine qZ (rZ (mvZ (.int .i64 (m.Phases.length : Int)) rfl (wZ rg (o_gtr rfl rfl (asZ (.bool (decide (6 < (m.Phases.length : Int)))) rfl (nZ ?_))))))
  refine Vc.cond' rfl (fun hb1 => ?_) (fun hb1 => ?_)
  · replace h := h.1 hb1
    refine qZ (rZ (wZ rg (o_iface (by rw [td107]; trivial) (v := .int .i64 4) rfl (asZ (.iface 107 (.int .i64 4)) rfl (nZ ?_)))))
    refine Vc.ret' ?_
    refine res_tmp (v := .iface 107 (.int .i64 4)) rfl (res_nil ?_)
    show Gives _ (.iface 107 (.int .i64 4)) _
    exact gives_out hrg (VW.refl _) (hQ _ h)
  replace h := h.2 hb1
  refine Vc.skip' ?_
  refine qZ (rZ (wZ rg (o_faP td94 rfl rfl (by rw [sz91]; decide) rfl (wZ rg (o_loadB1 (atL (k := 1) rfl) sz91 ag91 rfl rfl (v := eL eFormula m.Phases) rfl (wZ rg (o_idxL td91 sz70 (by decide) (fun _ => rfl) rfl rfl h.1 ?_)))))))
  replace h := h.2
  refine wZ rg (o_fa td70 rfl rfl (by rw [sz3]; decide) rfl rfl (wZ rg (o_loadI1 sz3 ag3 rfl rfl (v := .int .i64 ((at' m.Phases 0).Vars)) rfl (asZ (.int .i64 ((at' m.Phases 0).Vars)) rfl (nZ (qZ (qZ (rZ (wZ rg (o_faP td94 rfl rfl (by rw [sz91]; decide) rfl (wZ rg (o_loadB1 (atL (k := 1) rfl) sz91 ag91 rfl rfl (v := eL eFormula m.Phases) rfl (wZ rg (o_len td91 rfl (mvZ (.int .i64 0) rfl (nZ ?_))))))))))))))))
  refine Vc.blk ?_
  obtain ⟨I, μ, h0, hI⟩ := h
  refine Vc.loop' (σ := (Int)) (fun y => I y) (fun y => μ y) (fun y => envOf [(1, .ptr rg 1 g1 0 0), (4, .int .i64 ((at' m.Phases 0).Vars)), (27, eL eFormula m.Phases), (28, .int .i64 (m.Phases.length : Int)), (29, .int .i64 y)]) (fun y => stL S rg [(1, .arr 2 [eMission m], g1)]) 0 (canon (fc vr (fc vr (fc vr (fc vr (fc vr (fn)))))) (sc rfl (sn))) h0 (fun x h => ?_)
  replace h := hI x h
  show Vc _ _ _ _ (envOf [(1, .ptr rg 1 g1 0 0), (4, .int .i64 ((at' m.Phases 0).Vars)), (27, eL eFormula m.Phases), (28, .int .i64 (m.Phases.length : Int)), (29, .int .i64 x)]) (stL S rg [(1, .arr 2 [eMission m], g1)])
  refine qZ (rZ (wZ rg (o_lss rfl rfl (nZ (qZ ?_)))))
  refine Vc.cond' rfl (fun hb2 => ?_) (fun hb2 => ?_)
  · replace h := h.1 hb2
    refine Vc.skip' ?_
    refine qZ ?_
    refine Vc.blk ?_
    refine qZ (rZ (wZ rg (o_idxL td91 sz70 (by decide) (fun _ => rfl) rfl rfl h.1 ?_)))
    replace h := h.2
    refine wZ rg (o_loadIA sz70 (by decide) ag70 rfl rfl (v := eFormula (at' m.Phases x)) rfl (wZ rg (o_alloc zav70 ok70 (kk := 3) rfl (fun g2 => (wZ rg (o_storeB (atL (k := 6) rfl) sz70 (by decide) rfl (w := eFormula (at' m.Phases x)) rfl rfl rfl (v := eFormula (at' m.Phases x)) rfl setL (nZ (qZ (qZ (rZ ?_))))))))))
    refine wZ rg (o_loadBA (atL (k := 6) rfl) sz70 (by decide) ag70 rfl rfl (v := eFormula (at' m.Phases x)) rfl (wZ rg (o_call (us := [eFormula (at' m.Phases x)]) rfl (vl' vr (vn)) (formula_Check_ctr h fun err h => (asZ (eErr 107 err) rfl (nZ (qZ (rZ (mvZ (eErr 107 err) rfl (wZ rg (o_isnon td31 (E := 107) rfl rfl rfl (nZ ?_))))))))))))
    refine Vc.cond' rfl (fun hb3 => ?_) (fun hb3 => ?_)
    · replace h := h.1 hb3
      refine qZ (rZ (mvZ (eErr 107 err) rfl (asZ (eErr 107 err) rfl (nZ ?_))))
      refine Vc.ret' ?_
      refine res_tmp (v := eErr 107 err) rfl (res_nil ?_)
      show Gives _ (eErr 107 err) _
      exact gives_out hrg (VW.refl _) (hQ _ h)
    replace h := h.2 hb3
    refine Vc.skip' ?_
    refine qZ (rZ (wZ rg (o_faP td70 rfl rfl (by rw [sz3]; decide) rfl (wZ rg (o_loadB1 (atL (k := 6) rfl) sz3 ag3 rfl rfl (v := .int .i64 ((at' m.Phases x).Vars)) rfl (mvZ (.int .i64 ((at' m.Phases 0).Vars)) rfl (wZ rg (o_neq rfl rfl (nZ ?_)))))))))
    refine Vc.cond' rfl (fun hb4 => ?_) (fun hb4 => ?_)
    · replace h := h.1 hb4
      refine qZ (rZ (wZ rg (o_iface (by rw [td107]; trivial) (v := .int .i64 11) rfl (asZ (.iface 107 (.int .i64 11)) rfl (nZ ?_)))))
      refine Vc.ret' ?_
      refine res_tmp (v := .iface 107 (.int .i64 11)) rfl (res_nil ?_)
      show Gives _ (.iface 107 (.int .i64 11)) _
      exact gives_out hrg (VW.refl _) (hQ _ h)
    replace h := h.2 hb4
    refine Vc.skip' ?_
    refine rZ ?_
    refine wZ rg (o_addG rfl rfl h.1 ?_)
    replace h := h.2
    refine mvZ (.int .i64 (x + 1)) rfl (nZ ?_)
    exact ⟨(x + 1), (canon (fc vr (fc vr (fc vr (fc vr (fc vr (fn)))))) (sc rfl (sn))), h⟩
  replace h := h.2 hb2
  refine Vc.exit' (exB_self ?_)
  refine qZ ?_
  refine Vc.blk ?_
  refine qZ (rZ (mvZ (.int .i64 ((at' m.Phases 0).Vars)) rfl (wZ rg (o_faP td94 rfl rfl (by rw [sz91]; decide) rfl (wZ rg (o_loadB1 (atL (k := 1) rfl) sz91 ag91 rfl rfl (v := eL eFormula m.Phases) rfl (wZ rg (o_len td91 rfl (wZ rg (o_mulG rfl rfl h.1 ?_))))))))))
  replace h := h.2
  refine wZ rg (o_gtr rfl rfl (asZ (.bool (decide (24 < ((at' m.Phases 0).Vars * (m.Phases.length : Int))))) rfl (nZ ?_)))
  refine Vc.cond' rfl (fun hb5 => ?_) (fun hb5 => ?_)
  · replace h := h.1 hb5
    refine qZ (rZ (wZ rg (o_iface (by rw [td107]; trivial) (v := .int .i64 4) rfl (asZ (.iface 107 (.int .i64 4)) rfl (nZ ?_)))))
    refine Vc.ret' ?_
    refine res_tmp (v := .iface 107 (.int .i64 4)) rfl (res_nil ?_)
    show Gives _ (.iface 107 (.int .i64 4)) _
    exact gives_out hrg (VW.refl _) (hQ _ h)
  replace h := h.2 hb5
  refine qZ (rZ (wZ rg (o_faP td94 rfl rfl (by rw [sz92]; decide) rfl (wZ rg (o_loadB1 (atL (k := 1) rfl) sz92 ag92 rfl rfl (v := eL (eL eRat) m.P) rfl (wZ rg (o_len td92 rfl (mvZ (.int .i64 ((at' m.Phases 0).Vars)) rfl (wZ rg (o_neq rfl rfl (asZ (.bool ((m.P.length : Int) != (at' m.Phases 0).Vars)) rfl (nZ ?_))))))))))))
  refine Vc.cond' rfl (fun hb6 => ?_) (fun hb6 => ?_)
  · replace h := h.1 hb6
    refine qZ (rZ (wZ rg (o_iface (by rw [td107]; trivial) (v := .int .i64 11) rfl (asZ (.iface 107 (.int .i64 11)) rfl (nZ ?_)))))
    refine Vc.ret' ?_
    refine res_tmp (v := .iface 107 (.int .i64 11)) rfl (res_nil ?_)
    show Gives _ (.iface 107 (.int .i64 11)) _
    exact gives_out hrg (VW.refl _) (hQ _ h)
  replace h := h.2 hb6
  refine Vc.skip' ?_
  refine qZ (qZ (rZ (wZ rg (o_faP td94 rfl rfl (by rw [sz92]; decide) rfl (wZ rg (o_loadB1 (atL (k := 1) rfl) sz92 ag92 rfl rfl (v := eL (eL eRat) m.P) rfl (wZ rg (o_len td92 rfl (mvZ (.int .i64 0) rfl (nZ ?_))))))))))
  refine Vc.blk ?_
  obtain ⟨I, μ, h0, hI⟩ := h
  refine Vc.loop' (σ := (Int)) (fun y => I y) (fun y => μ y) (fun y => envOf [(1, .ptr rg 1 g1 0 0), (60, eL (eL eRat) m.P), (61, .int .i64 (m.P.length : Int)), (62, .int .i64 y)]) (fun y => stL S rg [(1, .arr 2 [eMission m], g1)]) 0 (canon (fc vr (fc vr (fc vr (fc vr (fn))))) (sc rfl (sn))) h0 (fun x1 h => ?_)
  replace h := hI x1 h
  show Vc _ _ _ _ (envOf [(1, .ptr rg 1 g1 0 0), (60, eL (eL eRat) m.P), (61, .int .i64 (m.P.length : Int)), (62, .int .i64 x1)]) (stL S rg [(1, .arr 2 [eMission m], g1)])
  refine qZ (rZ (wZ rg (o_lss rfl rfl (nZ (qZ ?_)))))
  refine Vc.cond' rfl (fun hb7 => ?_) (fun hb7 => ?_)
  · replace h := h.1 hb7
    refine Vc.skip' ?_
    refine qZ ?_
    refine Vc.blk ?_
    refine qZ (rZ (wZ rg (o_idxL td92 sz22 (by decide) (fun _ => rfl) rfl rfl h.1 ?_)))
    replace h := h.2
    refine wZ rg (o_loadI1 sz22 ag22 rfl rfl (v := eL eRat (at' m.P x1)) rfl (asZ (eL eRat (at' m.P x1)) rfl (nZ (qZ (qZ (rZ (mvZ (eL eRat (at' m.P x1)) rfl (wZ rg (o_len td22 rfl (wZ rg (o_faP td94 rfl rfl (by rw [sz91]; decide) rfl (wZ rg (o_loadB1 (atL (k := 1) rfl) sz91 ag91 rfl rfl (v := eL eFormula m.Phases) rfl (wZ rg (o_len td91 rfl (wZ rg (o_neq rfl rfl (nZ ?_))))))))))))))))))
    refine Vc.cond' rfl (fun hb8 => ?_) (fun hb8 => ?_)
    · replace h := h.1 hb8
      refine qZ (rZ (wZ rg (o_iface (by rw [td107]; trivial) (v := .int .i64 11) rfl (asZ (.iface 107 (.int .i64 11)) rfl (nZ ?_)))))
      refine Vc.ret' ?_
      refine res_tmp (v := .iface 107 (.int .i64 11)) rfl (res_nil ?_)
      show Gives _ (.iface 107 (.int .i64 11)) _
      exact gives_out hrg (VW.refl _) (hQ _ h)
    replace h := h.2 hb8
    refine Vc.skip' ?_
    refine qZ (rZ (mvZ (eL eRat (at' m.P x1)) rfl (wZ rg (o_call (us := [eL eRat (at' m.P x1), .fn (.func 126) [] []]) rfl (vl' vr (vl' vr (vn))) (slices_ContainsFunc___api_Rat_api_Rat__phases_Check_1_ctr h fun r h => (nZ ?_))))))
    refine Vc.cond' rfl (fun hb9 => ?_) (fun hb9 => ?_)
    · replace h := h.1 hb9
      refine qZ (rZ (wZ rg (o_iface (by rw [td107]; trivial) (v := .int .i64 3) rfl (asZ (.iface 107 (.int .i64 3)) rfl (nZ ?_)))))
      refine Vc.ret' ?_
      refine res_tmp (v := .iface 107 (.int .i64 3)) rfl (res_nil ?_)
      show Gives _ (.iface 107 (.int .i64 3)) _
      exact gives_out hrg (VW.refl _) (hQ _ h)
    replace h := h.2 hb9
    refine Vc.skip' ?_
    refine rZ ?_
    refine wZ rg (o_addG rfl rfl h.1 ?_)
    replace h := h.2
    refine mvZ (.int .i64 (x1 + 1)) rfl (nZ ?_)
    exact ⟨(x1 + 1), (canon (fc vr (fc vr (fc vr (fc vr (fn))))) (sc rfl (sn))), h⟩
  replace h := h.2 hb7
  refine Vc.exit' (exB_self ?_)
  refine qZ (rZ (asZ .niface rfl (nZ ?_)))
  refine Vc.ret' ?_
  refine res_tmp (v := .niface) rfl (res_nil ?_)
  show Gives _ .niface _
  exact gives_out hrg (VW.refl _) (hQ _ h)
theorem slices_Clone___int_int__e_ctr {s : List Int} {q0 k0 g0 : Nat} (hdk : DK [(q0, k0)]) {Q : List Int → Prop} {S : St} {R : AV → St → Prop} (h : slices_Clone___int_int__e_W s Q) (hQ : ∀ r1, Q r1 → R (eL (AV.int .i64) r1) (stX S [(q0, k0, .arr 1 (List.map (AV.int .i64) s), g0)])) :
    Ctr Try.prog 129 [.sl 1 q0 k0 g0 0 s.length] (stX S [(q0, k0, .arr 1 (List.map (AV.int .i64) s), g0)]) R := by
  unfold slices_Clone___int_int__e_W at h
  refine enterT Try.func129 rfl Try.ntmps129 Try.results129 (by kernel_rfl) (fun rg hrg => ?_)
  have hdx : DX [(q0, k0, .arr 1 (List.map (AV.int .i64) s), g0)] := hdk
  have hfr := fun X' e => fresh_set (S := S) (rg := rg) (X := [(q0, k0, .arr 1 (List.map (AV.int .i64) s), g0)]) (X' := X') e hrg
  have hne0 := fresh_ne hdx hrg 0 rfl
  refine qZ (rZ (asZ .nil rfl (nZ (qZ (qZ (rZ (mvZ (.sl 1 q0 k0 g0 0 s.length) rfl ?_)))))))
  refine Wl.isnilR td76 rfl rfl (fun isnil hn => ?_)
  replace h := h isnil hn
  refine nZ ?_
  refine Vc.cond' rfl (fun hb => ?_) (fun hb => ?_)
  · replace h := h.1 hb
    refine qZ (rZ (asZ .nil rfl (nZ ?_)))
    refine Vc.ret' ?_
    refine res_tmp (v := .nil) rfl (res_nil ?_)
    show Gives _ .nil _
    exact gives_out (hfr _ rfl) (VW.nilL) (hQ _ h)
  replace h := h.2 hb
  refine Vc.skip' ?_
  refine qZ (rZ (wZ rg (o_bslice td76 ok3 zav3 (es := []) rfl (kk := 1) rfl rfl rfl rfl rfl rfl (fun g1 => (mvZ (.sl 1 q0 k0 g0 0 s.length) rfl ?_)))))
  refine wZ rg (o_appR td76 bts3 ok3 zav3 (es := []) (xs := s) (enc := AV.int .i64) (atL (k := 5) rfl) (by first | rfl | omega | (simp only [go_sem] <;> omega)) (view_rowE (atX hne0 hdx 0 rfl) (by first | rfl | omega | (simp only [go_sem] <;> omega))) (kk := 1) rfl rfl (fun _ => rfl) (fun _ => rfl) h.1 rfl (fun _ => setL) (fun g2 => ?_))
  replace h := h.2
  refine asZ (.sl 1 rg 5 g2 0 (([] ++ s).length)) rfl (nZ ?_)
  refine Vc.ret' ?_
  refine res_tmp (v := .sl 1 rg 5 g2 0 (([] ++ s).length)) rfl (res_nil ?_)
  show Gives _ (.sl 1 rg 5 g2 0 (([] ++ s).length)) _
  refine gives_freeze (k := 5) (xs := List.map (AV.int .i64) ([] ++ s)) rfl (v' := eL (AV.int .i64) ([] ++ s)) (frz_full rfl) ?_
  exact gives_out (hfr _ rfl) (VW.refl _) (hQ _ h)
theorem phases_Unfold_1__e_ctr {kind : Int} {k2 : Int} {args : List Int} {Vars : Int} {Top : Int} {Nodes : List GNode} {q0 k0 g0 q1 k1 g1 : Nat} (hdk : DK [(q0, k0), (q1, k1)]) {Q : List GNode → Int → Prop} {S : St} {R : AV → St → Prop} (h : phases_Unfold_1__e_W kind k2 args Vars Top Nodes Q) (hQ : ∀ r1 r2, ∀ h1, Q r1 r2 → R (AV.int .i64 r2) (stX S [(q0, k0, .arr 3 [.agg [.int .i64 Vars, .sl 3 q1 k1 h1 0 r1.length, .int .i64 Top]], g0), (q1, k1, .arr 3 (List.map eNode r1), h1)])) :
    Ctr Try.prog 128 [AV.int .i64 kind, AV.int .i64 k2, eL (AV.int .i64) args, .ptr q0 k0 g0 0 0] (stX S [(q0, k0, .arr 3 [.agg [.int .i64 Vars, .sl 3 q1 k1 g1 0 Nodes.length, .int .i64 Top]], g0), (q1, k1, .arr 3 (List.map eNode Nodes), g1)]) R := by
  unfold phases_Unfold_1__e_W at h
  refine enterT Try.func128 rfl Try.ntmps128 Try.results128 (by kernel_rfl) (fun rg hrg => ?_)
  have hdx : DX [(q0, k0, .arr 3 [.agg [.int .i64 Vars, .sl 3 q1 k1 g1 0 Nodes.length, .int .i64 Top]], g0), (q1, k1, .arr 3 (List.map eNode Nodes), g1)] := hdk
  have hfr := fun X' e => fresh_set (S := S) (rg := rg) (X := [(q0, k0, .arr 3 [.agg [.int .i64 Vars, .sl 3 q1 k1 g1 0 Nodes.length, .int .i64 Top]], g0), (q1, k1, .arr 3 (List.map eNode Nodes), g1)]) (X' := X') e hrg
  have hne0 := fresh_ne hdx hrg 0 rfl
  have hne1 := fresh_ne hdx hrg 1 rfl
  refine qZ (rZ (asZ (.int .i64 0) rfl (nZ (qZ (rZ (wZ rg (o_faP td70 rfl rfl (by rw [sz68]; decide) rfl (wZ rg (o_loadB1 (atX hne0 hdx 0 rfl) sz68 ag68 rfl rfl (v := .sl 3 q1 k1 g1 0 Nodes.length) rfl (mvZ (.int .i64 kind) rfl (mvZ (.int .i64 k2) rfl (mvZ (eL (AV.int .i64) args) rfl ?_))))))))))))
  refine wZ rg (o_build td78 zav78 bok78 szs78 sz78 (ps := [(0, .int .i64 kind), (1, .int .i64 k2), (2, eL (AV.int .i64) args)]) rfl rfl (v := .agg [.int .i64 kind, .int .i64 k2, eL (AV.int .i64) args]) rfl (wZ rg (o_bslice td68 ok78 zav78 (es := [.agg [.int .i64 kind, .int .i64 k2, eL (AV.int .i64) args]]) rfl (kk := 3) rfl rfl rfl rfl rfl rfl (fun g2 => ?_))))
  refine wZ rg (o_appR td68 bts78 ok78 zav78 (es := Nodes) (xs := [(⟨kind, k2, args⟩ : GNode)]) (enc := eNode) (atX hne1 hdx 1 rfl) (by first | rfl | omega | (simp only [go_sem] <;> omega)) (view_rowE (atL (k := 14) rfl) (by first | rfl | omega | (simp only [go_sem] <;> omega))) (kk := 3) rfl rfl (fun _ => rfl) (fun _ => rfl) h.1 rfl (fun _ => (setX hne1 hdx 1 rfl rfl)) (fun g3 => ?_))
  replace h := h.2
  refine wZ rg (o_faP td70 rfl rfl (by rw [sz68]; decide) rfl (wZ rg (o_storeB (atX hne0 hdx 0 rfl) sz68 (by decide) rfl (w := .sl 3 q1 k1 g3 0 ((Nodes ++ [(⟨kind, k2, args⟩ : GNode)]).length)) rfl rfl rfl (v := .agg [.int .i64 Vars, .sl 3 q1 k1 g3 0 ((Nodes ++ [(⟨kind, k2, args⟩ : GNode)]).length), .int .i64 Top]) rfl (setX hne0 hdx 0 rfl rfl) (nZ (qZ (rZ ?_))))))
  refine wZ rg (o_faP td70 rfl rfl (by rw [sz3]; decide) rfl (wZ rg (o_loadB1 (atX hne0 hdx 0 rfl) sz3 ag3 rfl rfl (v := .int .i64 Vars) rfl (wZ rg (o_faP td70 rfl rfl (by rw [sz68]; decide) rfl (wZ rg (o_loadB1 (atX hne0 hdx 0 rfl) sz68 ag68 rfl rfl (v := .sl 3 q1 k1 g3 0 ((Nodes ++ [(⟨kind, k2, args⟩ : GNode)]).length)) rfl (wZ rg (o_lenR td68 rfl (wZ rg (o_addG rfl rfl h.1 ?_)))))))))))
  replace h := h.2
  refine wZ rg (o_subG rfl rfl h.1 ?_)
  replace h := h.2
  refine asZ (.int .i64 ((Vars + ((Nodes ++ [(⟨kind, k2, args⟩ : GNode)]).length : Int)) - 1)) rfl (nZ ?_)
  refine Vc.ret' ?_
  refine res_tmp (v := .int .i64 ((Vars + ((Nodes ++ [(⟨kind, k2, args⟩ : GNode)]).length : Int)) - 1)) rfl (res_nil ?_)
  show Gives _ (.int .i64 ((Vars + ((Nodes ++ [(⟨kind, k2, args⟩ : GNode)]).length : Int)) - 1)) _
  exact gives_out (hfr _ rfl) (VW.refl _) (hQ _ _ _ h)
theorem phases_Unfold_2__e_ctr {arg : Int} {u : GFormula} {u1 : Int} {u2 : Int} {u3 : List (List Int)} {q0 k0 g0 q1 k1 g1 q2 k2 g2 q3 k3 g3 q4 k4 g4 : Nat} (hdk : DK [(q0, k0), (q1, k1), (q2, k2), (q3, k3), (q4, k4)]) {Q : Int → Prop} {S : St} {R : AV → St → Prop} (h : phases_Unfold_2__e_W arg u u1 u2 u3 Q) (hQ : ∀ r1, Q r1 → R (AV.int .i64 r1) (stX S [(q0, k0, .arr 3 [eFormula u], g0), (q1, k1, .arr 1 [.sl 1 q4 k4 g4 0 u3.length], g1), (q2, k2, .arr 1 [.int .i64 u1], g2), (q3, k3, .arr 1 [.int .i64 u2], g3), (q4, k4, .arr 1 (List.map (eL (AV.int .i64)) u3), g4)])) :
    Ctr Try.prog 130 [AV.int .i64 arg, .ptr q0 k0 g0 0 0, .ptr q1 k1 g1 0 0, .ptr q2 k2 g2 0 0, .ptr q3 k3 g3 0 0] (stX S [(q0, k0, .arr 3 [eFormula u], g0), (q1, k1, .arr 1 [.sl 1 q4 k4 g4 0 u3.length], g1), (q2, k2, .arr 1 [.int .i64 u1], g2), (q3, k3, .arr 1 [.int .i64 u2], g3), (q4, k4, .arr 1 (List.map (eL (AV.int .i64)) u3), g4)]) R := by
  unfold phases_Unfold_2__e_W at h
  refine enterT Try.func130 rfl Try.ntmps130 Try.results130 (by kernel_rfl) (fun rg hrg => ?_)
  have hdx : DX [(q0, k0, .arr 3 [eFormula u], g0), (q1, k1, .arr 1 [.sl 1 q4 k4 g4 0 u3.length], g1), (q2, k2, .arr 1 [.int .i64 u1], g2), (q3, k3, .arr 1 [.int .i64 u2], g3), (q4, k4, .arr 1 (List.map (eL (AV.int .i64)) u3), g4)] := hdk
  have hfr := fun X' e => fresh_set (S := S) (rg := rg) (X := [(q0, k0, .arr 3 [eFormula u], g0), (q1, k1, .arr 1 [.sl 1 q4 k4 g4 0 u3.length], g1), (q2, k2, .arr 1 [.int .i64 u1], g2), (q3, k3, .arr 1 [.int .i64 u2], g3), (q4, k4, .arr 1 (List.map (eL (AV.int .i64)) u3), g4)]) (X' := X') e hrg
  have hne0 := fresh_ne hdx hrg 0 rfl
  have hne1 := fresh_ne hdx hrg 1 rfl
  have hne2 := fresh_ne hdx hrg 2 rfl
  have hne3 := fresh_ne hdx hrg 3 rfl
  have hne4 := fresh_ne hdx hrg 4 rfl
  refine qZ (rZ (asZ (.int .i64 0) rfl (nZ (qZ (qZ (rZ (mvZ (.int .i64 arg) rfl (wZ rg (o_faP td70 rfl rfl (by rw [sz3]; decide) rfl (wZ rg (o_loadB1 (atX hne0 hdx 0 rfl) sz3 ag3 rfl rfl (v := .int .i64 u.Vars) rfl (wZ rg (o_lss rfl rfl (nZ ?_))))))))))))))
  refine Vc.cond' rfl (fun hb => ?_) (fun hb => ?_)
  · replace h := h.1 hb
    refine qZ ?_
    have hi := h.1
    replace h := h.2
    have hg := h.1
    replace h := h.2
    refine Vc.drawn' mixed rg (fun _ => jcr2) (by kernel_rfl) ?_
    refine dL (E := ([(q1, k1)], [])) rfl rfl (by simp) (cfn) (o_loadB1 (atX hne1 hdx 1 rfl) sz111 ag111 rfl rfl (v := .sl 1 q4 k4 g4 0 u3.length) rfl (dP rfl rfl (o_move (v := .int .i64 arg) rfl (dP rfl rfl (o_idxR0 td111 sz76 (by decide) rfl rfl hi ?_)))))
    refine dL (E := ([(q4, k4)], [])) rfl rfl (by simp) (cfo (by kernel_rfl) (cfn)) (o_loadR1 (atX hne4 hdx 4 rfl) sz76 ag76 rfl (lt_of hi (by first | rfl | omega | (simp only [go_sem] <;> omega))) rfl (v := eL (AV.int .i64) (at' u3 arg)) rfl ?_)
    refine dL (E := ([(q2, k2)], [])) rfl rfl (by simp) (cfa (by simp [apartE]) (cfa (by simp [apartE]) (cfn))) (o_loadB1 (atX hne2 hdx 2 rfl) sz3 ag3 rfl rfl (v := .int .i64 u1) rfl (dP rfl rfl (o_idxL td76 sz3 (by decide) (fun _ => rfl) rfl rfl hg (dP rfl rfl (o_loadI1 sz3 ag3 rfl rfl (v := .int .i64 (at' (at' u3 arg) u1)) rfl (dP rfl rfl (o_assign (v := .int .i64 (at' (at' u3 arg) u1)) rfl (dN ?_))))))))
    refine Vc.ret' ?_
    refine res_tmp (v := .int .i64 (at' (at' u3 arg) u1)) rfl (res_nil ?_)
    show Gives _ (.int .i64 (at' (at' u3 arg) u1)) _
    exact gives_out (hfr _ rfl) (VW.refl _) (hQ _ h)
  replace h := h.2 hb
  refine Vc.skip' ?_
  refine qZ (rZ (wZ rg (o_loadB1 (atX hne3 hdx 3 rfl) sz3 ag3 rfl rfl (v := .int .i64 u2) rfl (mvZ (.int .i64 arg) rfl (wZ rg (o_addG rfl rfl h.1 ?_))))))
  replace h := h.2
  refine wZ rg (o_faP td70 rfl rfl (by rw [sz3]; decide) rfl (wZ rg (o_loadB1 (atX hne0 hdx 0 rfl) sz3 ag3 rfl rfl (v := .int .i64 u.Vars) rfl (wZ rg (o_subG rfl rfl h.1 ?_)))))
  replace h := h.2
  refine asZ (.int .i64 ((u2 + arg) - u.Vars)) rfl (nZ ?_)
  refine Vc.ret' ?_
  refine res_tmp (v := .int .i64 ((u2 + arg) - u.Vars)) rfl (res_nil ?_)
  show Gives _ (.int .i64 ((u2 + arg) - u.Vars)) _
  exact gives_out (hfr _ rfl) (VW.refl _) (hQ _ h)
theorem phases_Unfold_ctr {m : GMission} {Q : GFormula → List GRat → Option Int → Prop} {S : St} {R : AV → St → Prop} (h : phases_Unfold_W m Q) (hQ : ∀ r1 r2 r3, Q r1 r2 r3 → R (.tuple [eFormula r1, eL eRat r2, eErr 107 r3]) S) :
    Ctr Try.prog 62 [eMission m] S R := by
  unfold phases_Unfold_W at h
  refine enterT Try.func62 rfl Try.ntmps62 Try.results62 (by kernel_rfl) (fun rg hrg => ?_)
  refine qZ (rZ (wZ rg (o_box (v := eMission m) rfl rfl (kk := 2) rfl (by decide) (fun g1 => (wZ rg (o_alloc zav70 ok70 (kk := 3) rfl (fun g2 => (asZ .nil rfl (asZ .niface rfl (nZ (qZ (qZ (rZ (wZ rg (o_loadBA (atL (k := 1) rfl) sz94 (by decide) ag94 rfl rfl (v := eMission m) rfl (wZ rg (o_call (us := [eMission m]) rfl (vl' vr (vn)) (phases_Check_ctr h fun err h => (asZ (eErr 107 err) rfl ?_)))))))))))))))))))
  refine nZ (qZ (rZ (mvZ (eErr 107 err) rfl (wZ rg (o_isnon td31 (E := 107) rfl rfl rfl (nZ ?_))))))
  refine Vc.cond' rfl (fun hb => ?_) (fun hb => ?_)
  · replace h := h.1 hb
    refine qZ (rZ (wZ rg (o_build td70 zav70 bok70 szs70 sz70 (ps := []) rfl rfl (v := .agg [.int .i64 0, .nil, .int .i64 0]) rfl (mvZ (eErr 107 err) rfl (wZ rg (o_storeB (atL (k := 2) rfl) sz70 (by decide) rfl (w := .agg [.int .i64 0, .nil, .int .i64 0]) rfl rfl rfl (v := .agg [.int .i64 0, .nil, .int .i64 0]) rfl setL (asZ .nil rfl (asZ (eErr 107 err) rfl (nZ ?_)))))))))
    refine Vc.ret' ?_
    refine res_cellA (atL (k := 2) rfl) sz70 (by decide) ag70 rfl rfl (v := .agg [.int .i64 0, .nil, .int .i64 0]) rfl (res_tmp (v := .nil) rfl (res_tmp (v := eErr 107 err) rfl (res_nil ?_)))
    show Gives _ (.tuple [.agg [.int .i64 0, .nil, .int .i64 0], .nil, eErr 107 err]) _
    exact gives_out hrg (VW.tupL (vl' (VW.aggL (vl' vr (vl' (VW.nilL) (vl' vr (vn))))) (vl' (VW.nilL) (vl' vr (vn))))) (hQ _ _ _ h)
  replace h := h.2 hb
  refine Vc.skip' ?_
  refine qZ ?_
  refine Vc.drawn' mixed rg (fun _ => jcr2) (by kernel_rfl) ?_
  refine dP rfl rfl (o_faP td94 rfl rfl (by rw [sz91]; decide) rfl (dL (E := ([(rg, 1)], [])) rfl rfl (by simp) (cfn) (o_loadB1 (atL (k := 1) rfl) sz91 ag91 rfl rfl (v := eL eFormula m.Phases) rfl (dP rfl rfl (o_len td91 rfl (dP rfl rfl (o_faP td94 rfl rfl (by rw [sz92]; decide) rfl ?_)))))))
  refine dL (E := ([(rg, 1)], [])) rfl rfl (by simp) (cfa (by simp [apartE]) (cfn)) (o_loadB1 (atL (k := 1) rfl) sz92 ag92 rfl rfl (v := eL (eL eRat) m.P) rfl (dP rfl rfl (o_len td92 rfl (dP rfl rfl (o_assign (v := .int .i64 (m.Phases.length : Int)) rfl (dP rfl rfl (o_assign (v := .int .i64 (m.P.length : Int)) rfl (dN (qZ (rZ (mvZ (.int .i64 (m.P.length : Int)) rfl ?_)))))))))))
  refine mvZ (.int .i64 (m.Phases.length : Int)) rfl (wZ rg (o_mulG rfl rfl h.1 ?_))
  replace h := h.2
  refine wZ rg (o_build td70 zav70 bok70 szs70 sz70 (ps := [(0, .int .i64 ((m.P.length : Int) * (m.Phases.length : Int)))]) rfl rfl (v := .agg [.int .i64 ((m.P.length : Int) * (m.Phases.length : Int)), .nil, .int .i64 0]) rfl (wZ rg (o_alloc zav70 ok70 (kk := 3) rfl (fun g3 => ?_))))
  refine wZ rg (o_storeB (atL (k := 8) rfl) sz70 (by decide) rfl (w := .agg [.int .i64 ((m.P.length : Int) * (m.Phases.length : Int)), .nil, .int .i64 0]) rfl rfl rfl (v := .agg [.int .i64 ((m.P.length : Int) * (m.Phases.length : Int)), .nil, .int .i64 0]) rfl setL (nZ (qZ (rZ (wZ rg (o_func (vs := []) (us := [.ptr rg 8 g3 0 0]) rfl rfl (asZ (.fn (.func 128) [] [.ptr rg 8 g3 0 0]) rfl (nZ (qZ (rZ ?_))))))))))
  refine mvZ (.int .i64 (m.P.length : Int)) rfl (wZ rg (o_makeZ td111 bts76 ok76 zav76 (kk := 1) rfl rfl rfl h.1 (fun g4 => ?_)))
  replace h := h.2
  refine Wl.fam 1 (AV.int .i64) (K := 47) rfl (by decide) (fun rf gs hrf nrf => ?_)
  refine wZ rg (o_alloc zav111 ok111 (kk := 1) rfl (fun g5 => (wZ rg (o_storeB (atL (k := 10) rfl) sz111 (by decide) rfl (w := .sl 1 rg 47 g4 0 (Int.toNat (m.P.length : Int))) rfl rfl rfl (v := .sl 1 rg 47 g4 0 (Int.toNat (m.P.length : Int))) rfl setL (nZ (qZ (qZ (rZ (wZ rg (o_loadB1 (atL (k := 10) rfl) sz111 ag111 rfl rfl (v := .sl 1 rg 47 g4 0 (Int.toNat (m.P.length : Int))) rfl ?_))))))))))
  refine wZ rg (o_lenR td111 rfl (mvZ (.int .i64 0) rfl (nZ ?_)))
  refine Vc.blk ?_
  refine Vc.matB 8 1 9001 3 (b := fun g6 => .agg [.int .i64 ((m.P.length : Int) * (m.Phases.length : Int)), .sl 3 rg 9001 g6 0 0, .int .i64 0]) rfl rfl (by decide) (by decide) rfl (fun g6 => ?_)
  obtain ⟨I, μ, h0, hI⟩ := h
  refine Vc.loop' (σ := ((Int × (List (List Int)) × (List GNode)) × (Nat × (Nat → Nat)))) (fun y => I y.1) (fun y => μ y.1) (fun y => envOf [(1, .ptr rg 1 g1 0 0), (2, .ptr rg 2 g2 0 0), (6, .int .i64 (m.Phases.length : Int)), (8, .ptr rg 8 g3 0 0), (9, .fn (.func 128) [] [.ptr rg 8 g3 0 0]), (10, .ptr rg 10 g5 0 0), (49, .int .i64 ((Int.toNat (m.P.length : Int)) : Int)), (50, .int .i64 y.1.1)]) (fun y => stL (famS S rf 1 (AV.int .i64) y.2.2 y.1.2.1) rg [(1, .arr 2 [eMission m], g1), (2, .arr 3 [.agg [.int .i64 0, .nil, .int .i64 0]], g2), (8, .arr 3 [.agg [.int .i64 ((m.P.length : Int) * (m.Phases.length : Int)), .sl 3 rg 9001 y.2.1 0 y.1.2.2.length, .int .i64 0]], g3), (10, .arr 1 [.sl 1 rg 47 g4 0 y.1.2.1.length], g5), (47, .arr 1 (famE rf 1 y.2.2 y.1.2.1), g4), (9001, .arr 3 (List.map eNode y.1.2.2), y.2.1)]) ((0, (rep' (m.P.length : Int) []), []), (g6, gs)) (EWk.trans (EWk.ow (k := 8) (o' := .arr 3 [.agg [.int .i64 ((m.P.length : Int) * (m.Phases.length : Int)), .sl 3 rg 9001 g6 0 ([].length), .int .i64 0]]) rfl (OW.one (VWL.vwc (vl' vr (vl' (VW.slen (by first | rfl | omega | (simp only [go_sem] <;> omega))) (vl' vr (vn))))))) (EWk.trans (EWk.ow (k := 10) (o' := .arr 1 [.sl 1 rg 47 g4 0 ((rep' (m.P.length : Int) []).length)]) rfl (OW.one (VWL.vwc (vl' (VW.slen (by first | rfl | omega | (simp only [go_sem] <;> omega))) (vn))))) (canon (fc vr (fc vr (fc vr (fc vr (fc vr (fc vr (fc vr (fc vr (fn))))))))) (sc rfl (sc rfl (sc rfl (sc rfl (sc rfl (sc rfl (sn)))))))))) h0 (fun y h => ?_)
  obtain ⟨⟨x, x1, x2⟩, ⟨g7, g8⟩⟩ := y
  replace h := hI (x, x1, x2) h
  show Vc _ _ _ _ (envOf [(1, .ptr rg 1 g1 0 0), (2, .ptr rg 2 g2 0 0), (6, .int .i64 (m.Phases.length : Int)), (8, .ptr rg 8 g3 0 0), (9, .fn (.func 128) [] [.ptr rg 8 g3 0 0]), (10, .ptr rg 10 g5 0 0), (49, .int .i64 ((Int.toNat (m.P.length : Int)) : Int)), (50, .int .i64 x)]) (stL (famS S rf 1 (AV.int .i64) g8 x1) rg [(1, .arr 2 [eMission m], g1), (2, .arr 3 [.agg [.int .i64 0, .nil, .int .i64 0]], g2), (8, .arr 3 [.agg [.int .i64 ((m.P.length : Int) * (m.Phases.length : Int)), .sl 3 rg 9001 g7 0 x2.length, .int .i64 0]], g3), (10, .arr 1 [.sl 1 rg 47 g4 0 x1.length], g5), (47, .arr 1 (famE rf 1 g8 x1), g4), (9001, .arr 3 (List.map eNode x2), g7)])
  refine qZ (rZ (wZ rg (o_lss rfl rfl (nZ (qZ ?_)))))
  refine Vc.cond' rfl (fun hb1 => ?_) (fun hb1 => ?_)
  · replace h := h.1 hb1
    refine Vc.skip' ?_
    refine qZ ?_
    refine Vc.blk ?_
    refine qZ (rZ (mvZ (.int .i64 x) rfl (asZ (.int .i64 x) rfl (nZ (qZ (rZ (asZ .nil rfl (nZ (qZ (rZ (mvZ (.int .i64 (m.Phases.length : Int)) rfl (mvZ (.int .i64 0) rfl (nZ ?_)))))))))))))
    refine Vc.blk ?_
    refine Vc.mat 12 64 1 rfl (by decide) (fun g9 => ?_)
    obtain ⟨I, μ, h0, hI⟩ := h
    refine Vc.loop' (σ := ((Int × (List (List Int)) × (List Int) × (List GNode)) × (Nat × Nat × (Nat → Nat)))) (fun y => I y.1) (fun y => μ y.1) (fun y => envOf [(1, .ptr rg 1 g1 0 0), (2, .ptr rg 2 g2 0 0), (6, .int .i64 (m.Phases.length : Int)), (8, .ptr rg 8 g3 0 0), (9, .fn (.func 128) [] [.ptr rg 8 g3 0 0]), (10, .ptr rg 10 g5 0 0), (11, .int .i64 x), (12, .sl 1 rg 64 y.2.1 0 y.1.2.2.1.length), (49, .int .i64 ((Int.toNat (m.P.length : Int)) : Int)), (50, .int .i64 x), (53, .int .i64 (m.Phases.length : Int)), (54, .int .i64 y.1.1)]) (fun y => stL (famS S rf 1 (AV.int .i64) y.2.2.2 y.1.2.1) rg [(1, .arr 2 [eMission m], g1), (2, .arr 3 [.agg [.int .i64 0, .nil, .int .i64 0]], g2), (8, .arr 3 [.agg [.int .i64 ((m.P.length : Int) * (m.Phases.length : Int)), .sl 3 rg 9001 y.2.2.1 0 y.1.2.2.2.length, .int .i64 0]], g3), (10, .arr 1 [.sl 1 rg 47 g4 0 y.1.2.1.length], g5), (47, .arr 1 (famE rf 1 y.2.2.2 y.1.2.1), g4), (64, .arr 1 (List.map (AV.int .i64) y.1.2.2.1), y.2.1), (9001, .arr 3 (List.map eNode y.1.2.2.2), y.2.2.1)]) ((0, x1, [], x2), (g9, g7, g8)) (canon (fc vr (fc vr (fc vr (fc vr (fc vr (fc vr (fc vr (fc (VW.slen (by first | rfl | omega | (simp only [go_sem] <;> omega))) (fc vr (fc vr (fc vr (fc vr (fn))))))))))))) (sc rfl (sc rfl (sc rfl (sc rfl (sc rfl (sc rfl (sc rfl (sn))))))))) h0 (fun y h => ?_)
    obtain ⟨⟨x3, x4, so, x5⟩, ⟨g10, g11, g12⟩⟩ := y
    replace h := hI (x3, x4, so, x5) h
    show Vc _ _ _ _ (envOf [(1, .ptr rg 1 g1 0 0), (2, .ptr rg 2 g2 0 0), (6, .int .i64 (m.Phases.length : Int)), (8, .ptr rg 8 g3 0 0), (9, .fn (.func 128) [] [.ptr rg 8 g3 0 0]), (10, .ptr rg 10 g5 0 0), (11, .int .i64 x), (12, .sl 1 rg 64 g10 0 so.length), (49, .int .i64 ((Int.toNat (m.P.length : Int)) : Int)), (50, .int .i64 x), (53, .int .i64 (m.Phases.length : Int)), (54, .int .i64 x3)]) (stL (famS S rf 1 (AV.int .i64) g12 x4) rg [(1, .arr 2 [eMission m], g1), (2, .arr 3 [.agg [.int .i64 0, .nil, .int .i64 0]], g2), (8, .arr 3 [.agg [.int .i64 ((m.P.length : Int) * (m.Phases.length : Int)), .sl 3 rg 9001 g11 0 x5.length, .int .i64 0]], g3), (10, .arr 1 [.sl 1 rg 47 g4 0 x4.length], g5), (47, .arr 1 (famE rf 1 g12 x4), g4), (64, .arr 1 (List.map (AV.int .i64) so), g10), (9001, .arr 3 (List.map eNode x5), g11)])
    refine qZ (rZ (wZ rg (o_lss rfl rfl (nZ (qZ ?_)))))
    refine Vc.cond' rfl (fun hb2 => ?_) (fun hb2 => ?_)
    · replace h := h.1 hb2
      refine Vc.skip' ?_
      refine qZ ?_
      refine Vc.blk ?_
      refine qZ (rZ (mvZ (.int .i64 x3) rfl (asZ (.int .i64 x3) rfl (nZ (qZ (rZ (mvZ (.sl 1 rg 64 g10 0 so.length) rfl (mvZ (.int .i64 x) rfl (mvZ (.int .i64 (m.Phases.length : Int)) rfl (wZ rg (o_mulG rfl rfl h.1 ?_)))))))))))
      replace h := h.2
      refine mvZ (.int .i64 x3) rfl (wZ rg (o_addG rfl rfl h.1 ?_))
      replace h := h.2
      refine wZ rg (o_bslice td76 ok3 zav3 (es := [.int .i64 ((x * (m.Phases.length : Int)) + x3)]) rfl (kk := 1) rfl rfl rfl rfl rfl rfl (fun g13 => ?_))
      refine wZ rg (o_appR td76 bts3 ok3 zav3 (es := so) (xs := [((x * (m.Phases.length : Int)) + x3)]) (enc := AV.int .i64) (atL (k := 64) rfl) (by first | rfl | omega | (simp only [go_sem] <;> omega)) (view_rowE (atL (k := 63) rfl) (by first | rfl | omega | (simp only [go_sem] <;> omega))) (kk := 1) rfl rfl (fun _ => rfl) (fun _ => rfl) h.1 rfl (fun _ => setL) (fun g14 => ?_))
      replace h := h.2
      refine asZ (.sl 1 rg 64 g14 0 ((so ++ [((x * (m.Phases.length : Int)) + x3)]).length)) rfl (nZ (qZ (rZ (mvZ (.int .i64 x3) rfl (wZ rg (o_eql rfl rfl (nZ ?_)))))))
      refine Vc.cond' rfl (fun hb3 => ?_) (fun hb3 => ?_)
      · replace h := h.1 hb3
        have hi := h.1
        replace h := h.2
        have hi1 := h.1
        replace h := h.2
        have hg := h.1
        replace h := h.2
        have hi2 := h.1
        replace h := h.2
        refine Vc.drawn' mixed rg (fun _ => jcr2) (by kernel_rfl) ?_
        refine dL (E := ([(rg, 10)], [])) rfl rfl (by simp) (cfn) (o_loadB1 (atL (k := 10) rfl) sz111 ag111 rfl rfl (v := .sl 1 rg 47 g4 0 x4.length) rfl (dP rfl rfl (o_move (v := .int .i64 x) rfl (dL (E := ([(rg, 10)], [])) rfl rfl (by simp) (cfa (by simp [apartE]) (cfn)) (o_loadB1 (atL (k := 10) rfl) sz111 ag111 rfl rfl (v := .sl 1 rg 47 g4 0 x4.length) rfl (dP rfl rfl (o_move (v := .int .i64 x) rfl ?_)))))))
        refine dP rfl rfl (o_idxR0 td111 sz76 (by decide) rfl rfl hi (dL (E := ([(rg, 47)], [])) rfl rfl (by simp) (cfo (by kernel_rfl) (cfa (by simp [apartE]) (cfn))) (o_loadF (atL (k := 47) rfl) sz76 ag76 rfl (lt_of hi (by first | rfl | omega | (simp only [go_sem] <;> omega))) (dP rfl rfl (o_move (v := .sl 1 rg 64 g14 0 ((so ++ [((x * (m.Phases.length : Int)) + x3)]).length)) rfl ?_)))))
        refine dP rfl rfl (o_idxR0 td76 sz3 (by decide) rfl rfl hi1 (dL (E := ([(rg, 64)], [])) rfl rfl (by simp) (cfa (by simp [apartE]) (cfa (by simp [apartE]) (cfa (by simp [apartE]) (cfn)))) (o_loadR1 (atL (k := 64) rfl) sz3 ag3 rfl (lt_of hi1 (by first | rfl | omega | (simp only [go_sem] <;> omega))) rfl (v := .int .i64 (at' (so ++ [((x * (m.Phases.length : Int)) + x3)]) 0)) rfl ?_)))
        refine dL (E := ([], [(rg, 76)])) rfl rfl (by simp) (cfo (by kernel_rfl) (cfa (by simp [apartE]) (cfa (by simp [apartE]) (cfa (by simp [apartE]) (cfn))))) (o_bslice td76 ok3 zav3 (es := [.int .i64 (at' (so ++ [((x * (m.Phases.length : Int)) + x3)]) 0)]) rfl (kk := 1) rfl rfl rfl rfl rfl rfl (fun g15 => ?_))
        refine dL (E := ([(rg, 76)], [(rf, Int.toNat x)])) rfl rfl (by simp) (cfo (by kernel_rfl) (cfo (by kernel_rfl) (cfo (by kernel_rfl) (cfo (by kernel_rfl) (cfa (by simp [apartE, hrf]) (cfn)))))) (o_appF hrf td76 bts3 ok3 zav3 (lt_of hi (by first | rfl | omega | (simp only [go_sem] <;> omega))) rfl (by first | rfl | omega | (simp only [go_sem] <;> omega)) (xs := [(at' (so ++ [((x * (m.Phases.length : Int)) + x3)]) 0)]) (enc := AV.int .i64) (view_rowE (atL (k := 76) rfl) (by first | rfl | omega | (simp only [go_sem] <;> omega))) (kk := 1) rfl rfl (fun _ => rfl) (fun _ => rfl) hg rfl (fun g16 => ?_))
        refine dP rfl rfl (o_idxR0 td111 sz76 (by decide) rfl rfl hi2 ?_)
        refine dL (E := ([], [(rg, 47)])) rfl rfl (by simp) (cfo (by kernel_rfl) (cfo (by kernel_rfl) (cfo (by kernel_rfl) (cfo (by kernel_rfl) (cfo (by kernel_rfl) (cfo (by kernel_rfl) (cfn))))))) (o_storeF (atL (k := 47) rfl) sz76 rfl rfl (lt_of hi2 (by first | rfl | omega | (simp only [go_sem] <;> omega))) (l := (at' x4 x ++ [(at' (so ++ [((x * (m.Phases.length : Int)) + x3)]) 0)])) rfl setL (dN (rZ ?_)))
        refine wZ rg (o_addG rfl rfl h.1 ?_)
        replace h := h.2
        refine mvZ (.int .i64 (x3 + 1)) rfl (nZ ?_)
        exact ⟨(((x3 + 1), (set' x4 x (at' x4 x ++ [(at' (so ++ [((x * (m.Phases.length : Int)) + x3)]) 0)])), (so ++ [((x * (m.Phases.length : Int)) + x3)]), x5), (g14, g11, (updg g12 (Int.toNat x) g16))), (EWk.trans (EWk.ow (k := 10) (o' := .arr 1 [.sl 1 rg 47 g4 0 ((set' x4 x (at' x4 x ++ [(at' (so ++ [((x * (m.Phases.length : Int)) + x3)]) 0)])).length)]) rfl (OW.one (VWL.vwc (vl' (VW.slen (by first | rfl | omega | (simp only [go_sem] <;> omega))) (vn))))) (canon (fc vr (fc vr (fc vr (fc vr (fc vr (fc vr (fc vr (fc vr (fc vr (fc vr (fc vr (fc vr (fn))))))))))))) (sc rfl (sc rfl (sc rfl (sc rfl (sc rfl (sc rfl (sc rfl (sn)))))))))), h⟩
      replace h := h.2 hb3
      have hi3 := h.1
      replace h := h.2
      obtain ⟨r, hc, h⟩ := h
      obtain ⟨u, r1, hc1, h⟩ := h
      have hg1 := h.1
      replace h := h.2
      have hi4 := h.1
      replace h := h.2
      refine Vc.drawn' mixed rg (usOf [(8, wc (fun _ => eL (AV.int .i64) r) [(rg, 64)] [] (fun _ => [])), (9, wc (fun _ => .int .i64 r1) [] [(rg, 8), (rg, 9001)] (fun gm1 => [(rg, 8, .arr 3 [.agg [.int .i64 ((m.P.length : Int) * (m.Phases.length : Int)), .sl 3 rg 9001 (gm1 0) 0 u.length, .int .i64 0]], g3), (rg, 9001, .arr 3 (List.map eNode u), (gm1 0))]))]) (by kernel_rfl) ?_
      refine dL (E := ([(rg, 10)], [])) rfl rfl (by simp) (cfn) (o_loadB1 (atL (k := 10) rfl) sz111 ag111 rfl rfl (v := .sl 1 rg 47 g4 0 x4.length) rfl (dP rfl rfl (o_move (v := .int .i64 x) rfl (dL (E := ([(rg, 10)], [])) rfl rfl (by simp) (cfa (by simp [apartE]) (cfn)) (o_loadB1 (atL (k := 10) rfl) sz111 ag111 rfl rfl (v := .sl 1 rg 47 g4 0 x4.length) rfl (dP rfl rfl (o_move (v := .int .i64 x) rfl ?_)))))))
      refine dP rfl rfl (o_idxR0 td111 sz76 (by decide) rfl rfl hi3 (dL (E := ([(rg, 47)], [])) rfl rfl (by simp) (cfo (by kernel_rfl) (cfa (by simp [apartE]) (cfn))) (o_loadF (atL (k := 47) rfl) sz76 ag76 rfl (lt_of hi3 (by first | rfl | omega | (simp only [go_sem] <;> omega))) (dP rfl rfl (o_move (v := .fn (.func 128) [] [.ptr rg 8 g3 0 0]) rfl ?_)))))
      refine dP rfl rfl (o_move (v := .sl 1 rg 64 g14 0 ((so ++ [((x * (m.Phases.length : Int)) + x3)]).length)) rfl ?_)
      refine dCE (vs := [.sl 1 rg 64 g14 0 ((so ++ [((x * (m.Phases.length : Int)) + x3)]).length)]) (V := fun _ => eL (AV.int .i64) r) (rd := [(rg, 64)]) (wk := []) (wr := fun _ => []) rfl (vl' vr (vn)) rfl (cfa (by simp [apartE]) (cfa (by simp [apartE]) (cfa (by simp [apartE]) (cfn)))) (by simp) (fun _ => rfl) (fun S' hA hB => ctrX (sx_c (ag hA 0 rfl (atL (k := 64) rfl)) (sx_n)) (slices_Clone___int_int__e_ctr (dk_c (ni_n) (dk_n)) hc (fun _ he => by obtain rfl := he; exact ⟨fun i => ([] : List Nat).getD i 0, rfl, sx_c (ag hA 0 rfl (atL (k := 64) rfl)) (sx_n)⟩))) (fun _ => ?_)
      refine vdT.eqS (sx_n) ?_
      refine dCE (vs := [AV.int .i64 3, AV.int .i64 0, eL (AV.int .i64) r, .ptr rg 8 g3 0 0]) (V := fun _ => .int .i64 r1) (rd := []) (wk := [(rg, 8), (rg, 9001)]) (wr := fun gm1 => [(rg, 8, .arr 3 [.agg [.int .i64 ((m.P.length : Int) * (m.Phases.length : Int)), .sl 3 rg 9001 (gm1 0) 0 u.length, .int .i64 0]], g3), (rg, 9001, .arr 3 (List.map eNode u), (gm1 0))]) rfl (vl' vr (vl' vr (vl' vr (vl' vr (vn))))) rfl (cfo (by kernel_rfl) (cfa (by simp [apartE]) (cfa (by simp [apartE]) (cfa (by simp [apartE]) (cfn))))) (by simp) (fun _ => rfl) (fun S' hA hB => ctrX (sx_c (ag hB 0 rfl (atL (k := 8) rfl)) (sx_c (ag hB 1 rfl (atL (k := 9001) rfl)) (sx_n))) (phases_Unfold_1__e_ctr (dk_c (ni_c (ni_o rfl) (ni_n)) (dk_c (ni_n) (dk_n))) hc1 (fun _ _ h1 he => by obtain ⟨rfl, rfl⟩ := he; exact ⟨fun i => [h1].getD i 0, rfl, sm_c (sm_c (sx_n))⟩))) (fun gm1 => ?_)
      refine vdT.eqS (sy_c (sy_c (sx_n) setL) setL) ?_
      refine dL (E := ([], [(rg, 89)])) rfl rfl (by simp) (cfo (by kernel_rfl) (cfo (by kernel_rfl) (cfa (by simp [apartE]) (cfa (by simp [apartE]) (cfa (by simp [apartE]) (cfn)))))) (o_bslice td76 ok3 zav3 (es := [.int .i64 r1]) rfl (kk := 1) rfl rfl rfl rfl rfl rfl (fun g17 => ?_))
      refine dL (E := ([(rg, 89)], [(rf, Int.toNat x)])) rfl rfl (by simp) (cfo (by kernel_rfl) (cfo (by kernel_rfl) (cfo (by kernel_rfl) (cfo (by kernel_rfl) (cfo (by kernel_rfl) (cfa (by simp [apartE, hrf]) (cfn))))))) (o_appF hrf td76 bts3 ok3 zav3 (lt_of hi3 (by first | rfl | omega | (simp only [go_sem] <;> omega))) rfl (by first | rfl | omega | (simp only [go_sem] <;> omega)) (xs := [r1]) (enc := AV.int .i64) (view_rowE (atL (k := 89) rfl) (by first | rfl | omega | (simp only [go_sem] <;> omega))) (kk := 1) rfl rfl (fun _ => rfl) (fun _ => rfl) hg1 rfl (fun g18 => ?_))
      refine dP rfl rfl (o_idxR0 td111 sz76 (by decide) rfl rfl hi4 ?_)
      refine dL (E := ([], [(rg, 47)])) rfl rfl (by simp) (cfo (by kernel_rfl) (cfo (by kernel_rfl) (cfo (by kernel_rfl) (cfo (by kernel_rfl) (cfo (by kernel_rfl) (cfo (by kernel_rfl) (cfo (by kernel_rfl) (cfn)))))))) (o_storeF (atL (k := 47) rfl) sz76 rfl rfl (lt_of hi4 (by first | rfl | omega | (simp only [go_sem] <;> omega))) (l := (at' x4 x ++ [r1])) rfl setL (dN (rZ (wZ rg (o_addG rfl rfl h.1 ?_)))))
      replace h := h.2
      refine mvZ (.int .i64 (x3 + 1)) rfl (nZ ?_)
      exact ⟨(((x3 + 1), (set' x4 x (at' x4 x ++ [r1])), (so ++ [((x * (m.Phases.length : Int)) + x3)]), u), (g14, (gm1 0), (updg g12 (Int.toNat x) g18))), (EWk.trans (EWk.ow (k := 10) (o' := .arr 1 [.sl 1 rg 47 g4 0 ((set' x4 x (at' x4 x ++ [r1])).length)]) rfl (OW.one (VWL.vwc (vl' (VW.slen (by first | rfl | omega | (simp only [go_sem] <;> omega))) (vn))))) (canon (fc vr (fc vr (fc vr (fc vr (fc vr (fc vr (fc vr (fc vr (fc vr (fc vr (fc vr (fc vr (fn))))))))))))) (sc rfl (sc rfl (sc rfl (sc rfl (sc rfl (sc rfl (sc rfl (sn)))))))))), h⟩
    replace h := h.2 hb2
    refine Vc.exit' (exB_self ?_)
    refine rZ ?_
    refine wZ rg (o_addG rfl rfl h.1 ?_)
    replace h := h.2
    refine mvZ (.int .i64 (x + 1)) rfl (nZ ?_)
    exact ⟨(((x + 1), x4, x5), (g11, g12)), (canon (fc vr (fc vr (fc vr (fc vr (fc vr (fc vr (fc vr (fc vr (fn))))))))) (sc rfl (sc rfl (sc rfl (sc rfl (sc rfl (sc rfl (sn)))))))), h⟩
  replace h := h.2 hb1
  refine Vc.exit' (exB_self ?_)
  refine qZ (rZ (asZ .nil rfl (nZ (qZ (qZ (rZ (wZ rg (o_faP td94 rfl rfl (by rw [sz91]; decide) rfl (wZ rg (o_loadB1 (atL (k := 1) rfl) sz91 ag91 rfl rfl (v := eL eFormula m.Phases) rfl (wZ rg (o_len td91 rfl (mvZ (.int .i64 0) rfl (nZ ?_))))))))))))))
  refine Vc.blk ?_
  refine Vc.wk (EWk.unfam hrf nrf (K := 47) rfl) ?_
  refine Vc.mat 14 144 1 rfl (by decide) (fun g19 => ?_)
  obtain ⟨I, μ, h0, hI⟩ := h
  refine Vc.loop' (σ := ((Int × (List Int) × (List GNode)) × (Nat × Nat))) (fun y => I y.1) (fun y => μ y.1) (fun y => envOf [(1, .ptr rg 1 g1 0 0), (2, .ptr rg 2 g2 0 0), (6, .int .i64 (m.Phases.length : Int)), (8, .ptr rg 8 g3 0 0), (9, .fn (.func 128) [] [.ptr rg 8 g3 0 0]), (10, .ptr rg 10 g5 0 0), (14, .sl 1 rg 144 y.2.1 0 y.1.2.1.length), (95, eL eFormula m.Phases), (96, .int .i64 (m.Phases.length : Int)), (97, .int .i64 y.1.1)]) (fun y => stL S rg [(1, .arr 2 [eMission m], g1), (2, .arr 3 [.agg [.int .i64 0, .nil, .int .i64 0]], g2), (8, .arr 3 [.agg [.int .i64 ((m.P.length : Int) * (m.Phases.length : Int)), .sl 3 rg 9001 y.2.2 0 y.1.2.2.length, .int .i64 0]], g3), (10, .arr 1 [.sl 1 rg 47 g4 0 x1.length], g5), (47, .arr 1 (List.map (eL (AV.int .i64)) x1), g4), (144, .arr 1 (List.map (AV.int .i64) y.1.2.1), y.2.1), (9001, .arr 3 (List.map eNode y.1.2.2), y.2.2)]) ((0, [], x2), (g19, g7)) (canon (fc vr (fc vr (fc vr (fc vr (fc vr (fc vr (fc (VW.slen (by first | rfl | omega | (simp only [go_sem] <;> omega))) (fc vr (fc vr (fc vr (fn))))))))))) (sc rfl (sc rfl (sc rfl (sc rfl (sc rfl (sc rfl (sc rfl (sn))))))))) h0 (fun y h => ?_)
  obtain ⟨⟨x6, tops, x7⟩, ⟨g20, g21⟩⟩ := y
  replace h := hI (x6, tops, x7) h
  show Vc _ _ _ _ (envOf [(1, .ptr rg 1 g1 0 0), (2, .ptr rg 2 g2 0 0), (6, .int .i64 (m.Phases.length : Int)), (8, .ptr rg 8 g3 0 0), (9, .fn (.func 128) [] [.ptr rg 8 g3 0 0]), (10, .ptr rg 10 g5 0 0), (14, .sl 1 rg 144 g20 0 tops.length), (95, eL eFormula m.Phases), (96, .int .i64 (m.Phases.length : Int)), (97, .int .i64 x6)]) (stL S rg [(1, .arr 2 [eMission m], g1), (2, .arr 3 [.agg [.int .i64 0, .nil, .int .i64 0]], g2), (8, .arr 3 [.agg [.int .i64 ((m.P.length : Int) * (m.Phases.length : Int)), .sl 3 rg 9001 g21 0 x7.length, .int .i64 0]], g3), (10, .arr 1 [.sl 1 rg 47 g4 0 x1.length], g5), (47, .arr 1 (List.map (eL (AV.int .i64)) x1), g4), (144, .arr 1 (List.map (AV.int .i64) tops), g20), (9001, .arr 3 (List.map eNode x7), g21)])
  refine qZ (rZ (wZ rg (o_lss rfl rfl (nZ (qZ ?_)))))
  refine Vc.cond' rfl (fun hb4 => ?_) (fun hb4 => ?_)
  · replace h := h.1 hb4
    refine Vc.skip' ?_
    refine qZ ?_
    refine Vc.blk ?_
    refine qZ (rZ (mvZ (.int .i64 x6) rfl (wZ rg (o_idxL td91 sz70 (by decide) (fun _ => rfl) rfl rfl h.1 ?_))))
    replace h := h.2
    refine wZ rg (o_loadIA sz70 (by decide) ag70 rfl rfl (v := eFormula (at' m.Phases x6)) rfl (wZ rg (o_alloc zav3 ok3 (kk := 1) rfl (fun g22 => (wZ rg (o_alloc zav70 ok70 (kk := 3) rfl (fun g23 => (wZ rg (o_storeB (atL (k := 15) rfl) sz3 (by decide) rfl (w := .int .i64 x6) rfl rfl rfl (v := .int .i64 x6) rfl setL ?_)))))))))
    refine wZ rg (o_storeB (atL (k := 16) rfl) sz70 (by decide) rfl (w := eFormula (at' m.Phases x6)) rfl rfl rfl (v := eFormula (at' m.Phases x6)) rfl setL (nZ (qZ (rZ (wZ rg (o_faP td70 rfl rfl (by rw [sz3]; decide) rfl (wZ rg (o_loadB1 (atL (k := 8) rfl) sz3 ag3 rfl rfl (v := .int .i64 ((m.P.length : Int) * (m.Phases.length : Int))) rfl (wZ rg (o_faP td70 rfl rfl (by rw [sz68]; decide) rfl ?_))))))))))
    refine wZ rg (o_loadB1 (atL (k := 8) rfl) sz68 ag68 rfl rfl (v := .sl 3 rg 9001 g21 0 x7.length) rfl (wZ rg (o_lenR td68 rfl (wZ rg (o_addG rfl rfl h.1 ?_)))))
    replace h := h.2
    refine wZ rg (o_alloc zav3 ok3 (kk := 1) rfl (fun g24 => (wZ rg (o_storeB (atL (k := 17) rfl) sz3 (by decide) rfl (w := .int .i64 (((m.P.length : Int) * (m.Phases.length : Int)) + (x7.length : Int))) rfl rfl rfl (v := .int .i64 (((m.P.length : Int) * (m.Phases.length : Int)) + (x7.length : Int))) rfl setL (nZ (qZ (rZ ?_)))))))
    refine wZ rg (o_func (vs := []) (us := [.ptr rg 16 g23 0 0, .ptr rg 10 g5 0 0, .ptr rg 15 g22 0 0, .ptr rg 17 g24 0 0]) rfl rfl (asZ (.fn (.func 130) [] [.ptr rg 16 g23 0 0, .ptr rg 10 g5 0 0, .ptr rg 15 g22 0 0, .ptr rg 17 g24 0 0]) rfl (nZ (qZ (qZ (rZ (wZ rg (o_faP td70 rfl rfl (by rw [sz68]; decide) rfl ?_))))))))
    refine wZ rg (o_loadB1 (atL (k := 16) rfl) sz68 ag68 rfl rfl (v := eL eNode ((at' m.Phases x6).Nodes)) rfl (wZ rg (o_len td68 rfl (mvZ (.int .i64 0) rfl (nZ ?_)))))
    refine Vc.blk ?_
    obtain ⟨I, μ, h0, hI⟩ := h
    refine Vc.loop' (σ := ((Int × (List GNode)) × (Nat))) (fun y => I y.1) (fun y => μ y.1) (fun y => envOf [(1, .ptr rg 1 g1 0 0), (2, .ptr rg 2 g2 0 0), (6, .int .i64 (m.Phases.length : Int)), (8, .ptr rg 8 g3 0 0), (9, .fn (.func 128) [] [.ptr rg 8 g3 0 0]), (10, .ptr rg 10 g5 0 0), (14, .sl 1 rg 144 g20 0 tops.length), (16, .ptr rg 16 g23 0 0), (18, .fn (.func 130) [] [.ptr rg 16 g23 0 0, .ptr rg 10 g5 0 0, .ptr rg 15 g22 0 0, .ptr rg 17 g24 0 0]), (95, eL eFormula m.Phases), (96, .int .i64 (m.Phases.length : Int)), (97, .int .i64 x6), (110, eL eNode ((at' m.Phases x6).Nodes)), (111, .int .i64 (((at' m.Phases x6).Nodes).length : Int)), (112, .int .i64 y.1.1)]) (fun y => stL S rg [(1, .arr 2 [eMission m], g1), (2, .arr 3 [.agg [.int .i64 0, .nil, .int .i64 0]], g2), (8, .arr 3 [.agg [.int .i64 ((m.P.length : Int) * (m.Phases.length : Int)), .sl 3 rg 9001 y.2 0 y.1.2.length, .int .i64 0]], g3), (10, .arr 1 [.sl 1 rg 47 g4 0 x1.length], g5), (15, .arr 1 [.int .i64 x6], g22), (16, .arr 3 [eFormula (at' m.Phases x6)], g23), (17, .arr 1 [.int .i64 (((m.P.length : Int) * (m.Phases.length : Int)) + (x7.length : Int))], g24), (47, .arr 1 (List.map (eL (AV.int .i64)) x1), g4), (144, .arr 1 (List.map (AV.int .i64) tops), g20), (9001, .arr 3 (List.map eNode y.1.2), y.2)]) ((0, x7), g21) (canon (fc vr (fc vr (fc vr (fc vr (fc vr (fc vr (fc vr (fc vr (fc vr (fc vr (fc vr (fc vr (fc vr (fc vr (fc vr (fn)))))))))))))))) (sc rfl (sc rfl (sc rfl (sc rfl (sc rfl (sc rfl (sc rfl (sc rfl (sc rfl (sc rfl (sn)))))))))))) h0 (fun y h => ?_)
    obtain ⟨⟨x8, x9⟩, g25⟩ := y
    replace h := hI (x8, x9) h
    show Vc _ _ _ _ (envOf [(1, .ptr rg 1 g1 0 0), (2, .ptr rg 2 g2 0 0), (6, .int .i64 (m.Phases.length : Int)), (8, .ptr rg 8 g3 0 0), (9, .fn (.func 128) [] [.ptr rg 8 g3 0 0]), (10, .ptr rg 10 g5 0 0), (14, .sl 1 rg 144 g20 0 tops.length), (16, .ptr rg 16 g23 0 0), (18, .fn (.func 130) [] [.ptr rg 16 g23 0 0, .ptr rg 10 g5 0 0, .ptr rg 15 g22 0 0, .ptr rg 17 g24 0 0]), (95, eL eFormula m.Phases), (96, .int .i64 (m.Phases.length : Int)), (97, .int .i64 x6), (110, eL eNode ((at' m.Phases x6).Nodes)), (111, .int .i64 (((at' m.Phases x6).Nodes).length : Int)), (112, .int .i64 x8)]) (stL S rg [(1, .arr 2 [eMission m], g1), (2, .arr 3 [.agg [.int .i64 0, .nil, .int .i64 0]], g2), (8, .arr 3 [.agg [.int .i64 ((m.P.length : Int) * (m.Phases.length : Int)), .sl 3 rg 9001 g25 0 x9.length, .int .i64 0]], g3), (10, .arr 1 [.sl 1 rg 47 g4 0 x1.length], g5), (15, .arr 1 [.int .i64 x6], g22), (16, .arr 3 [eFormula (at' m.Phases x6)], g23), (17, .arr 1 [.int .i64 (((m.P.length : Int) * (m.Phases.length : Int)) + (x7.length : Int))], g24), (47, .arr 1 (List.map (eL (AV.int .i64)) x1), g4), (144, .arr 1 (List.map (AV.int .i64) tops), g20), (9001, .arr 3 (List.map eNode x9), g25)])
    refine qZ (rZ (wZ rg (o_lss rfl rfl (nZ (qZ ?_)))))
    refine Vc.cond' rfl (fun hb5 => ?_) (fun hb5 => ?_)
    · replace h := h.1 hb5
      refine Vc.skip' ?_
      refine qZ ?_
      refine Vc.blk ?_
      refine qZ (rZ (wZ rg (o_idxL td68 sz78 (by decide) (fun _ => rfl) rfl rfl h.1 ?_)))
      replace h := h.2
      refine wZ rg (o_loadIA sz78 (by decide) ag78 rfl rfl (v := eNode (at' ((at' m.Phases x6).Nodes) x8)) rfl (wZ rg (o_alloc zav78 ok78 (kk := 3) rfl (fun g26 => (wZ rg (o_storeB (atL (k := 20) rfl) sz78 (by decide) rfl (w := eNode (at' ((at' m.Phases x6).Nodes) x8)) rfl rfl rfl (v := eNode (at' ((at' m.Phases x6).Nodes) x8)) rfl setL (nZ (qZ (rZ (asZ .nil rfl (nZ (qZ (qZ (rZ ?_))))))))))))))
      refine wZ rg (o_faP td78 rfl rfl (by rw [sz76]; decide) rfl (wZ rg (o_loadB1 (atL (k := 20) rfl) sz76 ag76 rfl rfl (v := eL (AV.int .i64) ((at' ((at' m.Phases x6).Nodes) x8).Args)) rfl (wZ rg (o_len td76 rfl (mvZ (.int .i64 0) rfl (nZ ?_)))))))
      refine Vc.blk ?_
      refine Vc.mat 21 128 1 rfl (by decide) (fun g27 => ?_)
      obtain ⟨I, μ, h0, hI⟩ := h
      refine Vc.loop' (σ := ((Int × (List Int)) × (Nat))) (fun y => I y.1) (fun y => μ y.1) (fun y => envOf [(1, .ptr rg 1 g1 0 0), (2, .ptr rg 2 g2 0 0), (6, .int .i64 (m.Phases.length : Int)), (8, .ptr rg 8 g3 0 0), (9, .fn (.func 128) [] [.ptr rg 8 g3 0 0]), (10, .ptr rg 10 g5 0 0), (14, .sl 1 rg 144 g20 0 tops.length), (16, .ptr rg 16 g23 0 0), (18, .fn (.func 130) [] [.ptr rg 16 g23 0 0, .ptr rg 10 g5 0 0, .ptr rg 15 g22 0 0, .ptr rg 17 g24 0 0]), (20, .ptr rg 20 g26 0 0), (21, .sl 1 rg 128 y.2 0 y.1.2.length), (95, eL eFormula m.Phases), (96, .int .i64 (m.Phases.length : Int)), (97, .int .i64 x6), (110, eL eNode ((at' m.Phases x6).Nodes)), (111, .int .i64 (((at' m.Phases x6).Nodes).length : Int)), (112, .int .i64 x8), (117, eL (AV.int .i64) ((at' ((at' m.Phases x6).Nodes) x8).Args)), (118, .int .i64 (((at' ((at' m.Phases x6).Nodes) x8).Args).length : Int)), (119, .int .i64 y.1.1)]) (fun y => stL S rg [(1, .arr 2 [eMission m], g1), (2, .arr 3 [.agg [.int .i64 0, .nil, .int .i64 0]], g2), (8, .arr 3 [.agg [.int .i64 ((m.P.length : Int) * (m.Phases.length : Int)), .sl 3 rg 9001 g25 0 x9.length, .int .i64 0]], g3), (10, .arr 1 [.sl 1 rg 47 g4 0 x1.length], g5), (15, .arr 1 [.int .i64 x6], g22), (16, .arr 3 [eFormula (at' m.Phases x6)], g23), (17, .arr 1 [.int .i64 (((m.P.length : Int) * (m.Phases.length : Int)) + (x7.length : Int))], g24), (20, .arr 3 [eNode (at' ((at' m.Phases x6).Nodes) x8)], g26), (47, .arr 1 (List.map (eL (AV.int .i64)) x1), g4), (128, .arr 1 (List.map (AV.int .i64) y.1.2), y.2), (144, .arr 1 (List.map (AV.int .i64) tops), g20), (9001, .arr 3 (List.map eNode x9), g25)]) ((0, []), g27) (canon (fc vr (fc vr (fc vr (fc vr (fc vr (fc vr (fc vr (fc vr (fc vr (fc vr (fc (VW.slen (by first | rfl | omega | (simp only [go_sem] <;> omega))) (fc vr (fc vr (fc vr (fc vr (fc vr (fc vr (fc vr (fc vr (fc vr (fn))))))))))))))))))))) (sc rfl (sc rfl (sc rfl (sc rfl (sc rfl (sc rfl (sc rfl (sc rfl (sc rfl (sc rfl (sc rfl (sc rfl (sn)))))))))))))) h0 (fun y h => ?_)
      obtain ⟨⟨x10, args⟩, g28⟩ := y
      replace h := hI (x10, args) h
      show Vc _ _ _ _ (envOf [(1, .ptr rg 1 g1 0 0), (2, .ptr rg 2 g2 0 0), (6, .int .i64 (m.Phases.length : Int)), (8, .ptr rg 8 g3 0 0), (9, .fn (.func 128) [] [.ptr rg 8 g3 0 0]), (10, .ptr rg 10 g5 0 0), (14, .sl 1 rg 144 g20 0 tops.length), (16, .ptr rg 16 g23 0 0), (18, .fn (.func 130) [] [.ptr rg 16 g23 0 0, .ptr rg 10 g5 0 0, .ptr rg 15 g22 0 0, .ptr rg 17 g24 0 0]), (20, .ptr rg 20 g26 0 0), (21, .sl 1 rg 128 g28 0 args.length), (95, eL eFormula m.Phases), (96, .int .i64 (m.Phases.length : Int)), (97, .int .i64 x6), (110, eL eNode ((at' m.Phases x6).Nodes)), (111, .int .i64 (((at' m.Phases x6).Nodes).length : Int)), (112, .int .i64 x8), (117, eL (AV.int .i64) ((at' ((at' m.Phases x6).Nodes) x8).Args)), (118, .int .i64 (((at' ((at' m.Phases x6).Nodes) x8).Args).length : Int)), (119, .int .i64 x10)]) (stL S rg [(1, .arr 2 [eMission m], g1), (2, .arr 3 [.agg [.int .i64 0, .nil, .int .i64 0]], g2), (8, .arr 3 [.agg [.int .i64 ((m.P.length : Int) * (m.Phases.length : Int)), .sl 3 rg 9001 g25 0 x9.length, .int .i64 0]], g3), (10, .arr 1 [.sl 1 rg 47 g4 0 x1.length], g5), (15, .arr 1 [.int .i64 x6], g22), (16, .arr 3 [eFormula (at' m.Phases x6)], g23), (17, .arr 1 [.int .i64 (((m.P.length : Int) * (m.Phases.length : Int)) + (x7.length : Int))], g24), (20, .arr 3 [eNode (at' ((at' m.Phases x6).Nodes) x8)], g26), (47, .arr 1 (List.map (eL (AV.int .i64)) x1), g4), (128, .arr 1 (List.map (AV.int .i64) args), g28), (144, .arr 1 (List.map (AV.int .i64) tops), g20), (9001, .arr 3 (List.map eNode x9), g25)])
      refine qZ (rZ (wZ rg (o_lss rfl rfl (nZ (qZ ?_)))))
      refine Vc.cond' rfl (fun hb6 => ?_) (fun hb6 => ?_)
      · replace h := h.1 hb6
        refine Vc.skip' ?_
        refine qZ ?_
        refine Vc.blk ?_
        refine qZ (rZ (wZ rg (o_idxL td76 sz3 (by decide) (fun _ => rfl) rfl rfl h.1 ?_)))
        replace h := h.2
        refine wZ rg (o_loadI1 sz3 ag3 rfl rfl (v := .int .i64 (at' ((at' ((at' m.Phases x6).Nodes) x8).Args) x10)) rfl ?_)
        obtain ⟨a, hs⟩ : ∃ qz, qz = (at' ((at' ((at' m.Phases x6).Nodes) x8).Args) x10) := ⟨_, rfl⟩
        replace h := h a hs
        refine wZ rg (o_assign (v := .int .i64 a) (by subst hs; rfl) (nZ (rZ (mvZ (.sl 1 rg 128 g28 0 args.length) rfl (mvZ (.fn (.func 130) [] [.ptr rg 16 g23 0 0, .ptr rg 10 g5 0 0, .ptr rg 15 g22 0 0, .ptr rg 17 g24 0 0]) rfl (mvZ (.int .i64 a) rfl ?_))))))
        refine wZ rg (o_call (us := [AV.int .i64 a, .ptr rg 16 g23 0 0, .ptr rg 10 g5 0 0, .ptr rg 15 g22 0 0, .ptr rg 17 g24 0 0]) rfl (vl' vr (vl' vr (vl' vr (vl' vr (vl' vr (vn)))))) (ctrX (sx_c (atL (k := 16) rfl) (sx_c (atL (k := 10) rfl) (sx_c (atL (k := 15) rfl) (sx_c (atL (k := 17) rfl) (sx_c (atL (k := 47) rfl) (sx_n)))))) (phases_Unfold_2__e_ctr (dk_c (ni_c (ni_o rfl) (ni_c (ni_o rfl) (ni_c (ni_o rfl) (ni_c (ni_o rfl) (ni_n))))) (dk_c (ni_c (ni_o rfl) (ni_c (ni_o rfl) (ni_c (ni_o rfl) (ni_n)))) (dk_c (ni_c (ni_o rfl) (ni_c (ni_o rfl) (ni_n))) (dk_c (ni_c (ni_o rfl) (ni_n)) (dk_c (ni_n) (dk_n)))))) h fun r2 h => ?_)))
        refine Wl.eqS (sx_c (atL (k := 16) rfl) (sx_c (atL (k := 10) rfl) (sx_c (atL (k := 15) rfl) (sx_c (atL (k := 17) rfl) (sx_c (atL (k := 47) rfl) (sx_n)))))) ?_
        refine wZ rg (o_bslice td76 ok3 zav3 (es := [.int .i64 r2]) rfl (kk := 1) rfl rfl rfl rfl rfl rfl (fun g29 => ?_))
        refine wZ rg (o_appR td76 bts3 ok3 zav3 (es := args) (xs := [r2]) (enc := AV.int .i64) (atL (k := 128) rfl) (by first | rfl | omega | (simp only [go_sem] <;> omega)) (view_rowE (atL (k := 127) rfl) (by first | rfl | omega | (simp only [go_sem] <;> omega))) (kk := 1) rfl rfl (fun _ => rfl) (fun _ => rfl) h.1 rfl (fun _ => setL) (fun g30 => ?_))
        replace h := h.2
        refine asZ (.sl 1 rg 128 g30 0 ((args ++ [r2]).length)) rfl (nZ (rZ (wZ rg (o_addG rfl rfl h.1 ?_))))
        replace h := h.2
        refine mvZ (.int .i64 (x10 + 1)) rfl (nZ ?_)
        exact ⟨(((x10 + 1), (args ++ [r2])), g30), (canon (fc vr (fc vr (fc vr (fc vr (fc vr (fc vr (fc vr (fc vr (fc vr (fc vr (fc vr (fc vr (fc vr (fc vr (fc vr (fc vr (fc vr (fc vr (fc vr (fc vr (fn))))))))))))))))))))) (sc rfl (sc rfl (sc rfl (sc rfl (sc rfl (sc rfl (sc rfl (sc rfl (sc rfl (sc rfl (sc rfl (sc rfl (sn)))))))))))))), h⟩
      replace h := h.2 hb6
      refine Vc.exit' (exB_self ?_)
      refine rZ ?_
      refine mvZ (.fn (.func 128) [] [.ptr rg 8 g3 0 0]) rfl (wZ rg (o_faP td78 rfl rfl (by rw [sz3]; decide) rfl (wZ rg (o_loadB1 (atL (k := 20) rfl) sz3 ag3 rfl rfl (v := .int .i64 ((at' ((at' m.Phases x6).Nodes) x8).Kind)) rfl (wZ rg (o_faP td78 rfl rfl (by rw [sz3]; decide) rfl (wZ rg (o_loadB1 (atL (k := 20) rfl) sz3 ag3 rfl rfl (v := .int .i64 ((at' ((at' m.Phases x6).Nodes) x8).K)) rfl ?_))))))))
      refine mvZ (.sl 1 rg 128 g28 0 args.length) rfl ?_
      refine Wl.wk (canon_freeze (k := 128) (xs := List.map (AV.int .i64) args) rfl (es := [(1, .ptr rg 1 g1 0 0), (2, .ptr rg 2 g2 0 0), (6, .int .i64 (m.Phases.length : Int)), (8, .ptr rg 8 g3 0 0), (9, .fn (.func 128) [] [.ptr rg 8 g3 0 0]), (10, .ptr rg 10 g5 0 0), (14, .sl 1 rg 144 g20 0 tops.length), (16, .ptr rg 16 g23 0 0), (18, .fn (.func 130) [] [.ptr rg 16 g23 0 0, .ptr rg 10 g5 0 0, .ptr rg 15 g22 0 0, .ptr rg 17 g24 0 0]), (95, eL eFormula m.Phases), (96, .int .i64 (m.Phases.length : Int)), (97, .int .i64 x6), (110, eL eNode ((at' m.Phases x6).Nodes)), (111, .int .i64 (((at' m.Phases x6).Nodes).length : Int)), (112, .int .i64 x8), (130, .fn (.func 128) [] [.ptr rg 8 g3 0 0]), (132, .int .i64 ((at' ((at' m.Phases x6).Nodes) x8).Kind)), (134, .int .i64 ((at' ((at' m.Phases x6).Nodes) x8).K)), (135, eL (AV.int .i64) args)]) (fc vr (fc vr (fc vr (fc vr (fc vr (fc vr (fc (frz_ne rfl) (fc vr (fc vr (fc vr (fc vr (fc vr (fc vr (fc vr (fc vr (fc vr (fc vr (fc vr (fc (frz_full rfl) (fn)))))))))))))))))))) (m := [(1, .arr 2 [eMission m], g1), (2, .arr 3 [.agg [.int .i64 0, .nil, .int .i64 0]], g2), (8, .arr 3 [.agg [.int .i64 ((m.P.length : Int) * (m.Phases.length : Int)), .sl 3 rg 9001 g25 0 x9.length, .int .i64 0]], g3), (10, .arr 1 [.sl 1 rg 47 g4 0 x1.length], g5), (15, .arr 1 [.int .i64 x6], g22), (16, .arr 3 [eFormula (at' m.Phases x6)], g23), (17, .arr 1 [.int .i64 (((m.P.length : Int) * (m.Phases.length : Int)) + (x7.length : Int))], g24), (47, .arr 1 (List.map (eL (AV.int .i64)) x1), g4), (144, .arr 1 (List.map (AV.int .i64) tops), g20), (9001, .arr 3 (List.map eNode x9), g25)]) (sc rfl (sc rfl (sc rfl (sc rfl (sc rfl (sc rfl (sc rfl (sc rfl (sc rfl (sc rfl (sn)))))))))))) ?_
      refine wZ rg (o_call (us := [AV.int .i64 ((at' ((at' m.Phases x6).Nodes) x8).Kind), AV.int .i64 ((at' ((at' m.Phases x6).Nodes) x8).K), eL (AV.int .i64) args, .ptr rg 8 g3 0 0]) rfl (vl' vr (vl' vr (vl' vr (vl' vr (vn))))) (ctrX (sx_c (atL (k := 8) rfl) (sx_c (atL (k := 9001) rfl) (sx_n))) (phases_Unfold_1__e_ctr (dk_c (ni_c (ni_o rfl) (ni_n)) (dk_c (ni_n) (dk_n))) h fun u1 r3 g31 h => ?_)))
      refine Wl.eqS (sy_c (sy_c (sx_n) setL) setL) ?_
      refine nZ (rZ (wZ rg (o_addG rfl rfl h.1 ?_)))
      replace h := h.2
      refine mvZ (.int .i64 (x8 + 1)) rfl (nZ ?_)
      exact ⟨(((x8 + 1), u1), g31), (canon (fc vr (fc vr (fc vr (fc vr (fc vr (fc vr (fc vr (fc vr (fc vr (fc vr (fc vr (fc vr (fc vr (fc vr (fc vr (fn)))))))))))))))) (sc rfl (sc rfl (sc rfl (sc rfl (sc rfl (sc rfl (sc rfl (sc rfl (sc rfl (sc rfl (sn)))))))))))), h⟩
    replace h := h.2 hb5
    refine Vc.exit' (exB_self ?_)
    refine rZ ?_
    refine mvZ (.sl 1 rg 144 g20 0 tops.length) rfl (mvZ (.fn (.func 130) [] [.ptr rg 16 g23 0 0, .ptr rg 10 g5 0 0, .ptr rg 15 g22 0 0, .ptr rg 17 g24 0 0]) rfl (wZ rg (o_faP td70 rfl rfl (by rw [sz3]; decide) rfl (wZ rg (o_loadB1 (atL (k := 16) rfl) sz3 ag3 rfl rfl (v := .int .i64 ((at' m.Phases x6).Top)) rfl ?_)))))
    refine wZ rg (o_call (us := [AV.int .i64 ((at' m.Phases x6).Top), .ptr rg 16 g23 0 0, .ptr rg 10 g5 0 0, .ptr rg 15 g22 0 0, .ptr rg 17 g24 0 0]) rfl (vl' vr (vl' vr (vl' vr (vl' vr (vl' vr (vn)))))) (ctrX (sx_c (atL (k := 16) rfl) (sx_c (atL (k := 10) rfl) (sx_c (atL (k := 15) rfl) (sx_c (atL (k := 17) rfl) (sx_c (atL (k := 47) rfl) (sx_n)))))) (phases_Unfold_2__e_ctr (dk_c (ni_c (ni_o rfl) (ni_c (ni_o rfl) (ni_c (ni_o rfl) (ni_c (ni_o rfl) (ni_n))))) (dk_c (ni_c (ni_o rfl) (ni_c (ni_o rfl) (ni_c (ni_o rfl) (ni_n)))) (dk_c (ni_c (ni_o rfl) (ni_c (ni_o rfl) (ni_n))) (dk_c (ni_c (ni_o rfl) (ni_n)) (dk_c (ni_n) (dk_n)))))) h fun r4 h => ?_)))
    refine Wl.eqS (sx_c (atL (k := 16) rfl) (sx_c (atL (k := 10) rfl) (sx_c (atL (k := 15) rfl) (sx_c (atL (k := 17) rfl) (sx_c (atL (k := 47) rfl) (sx_n)))))) ?_
    refine wZ rg (o_bslice td76 ok3 zav3 (es := [.int .i64 r4]) rfl (kk := 1) rfl rfl rfl rfl rfl rfl (fun g32 => ?_))
    refine wZ rg (o_appR td76 bts3 ok3 zav3 (es := tops) (xs := [r4]) (enc := AV.int .i64) (atL (k := 144) rfl) (by first | rfl | omega | (simp only [go_sem] <;> omega)) (view_rowE (atL (k := 143) rfl) (by first | rfl | omega | (simp only [go_sem] <;> omega))) (kk := 1) rfl rfl (fun _ => rfl) (fun _ => rfl) h.1 rfl (fun _ => setL) (fun g33 => ?_))
    replace h := h.2
    refine asZ (.sl 1 rg 144 g33 0 ((tops ++ [r4]).length)) rfl (nZ (rZ (wZ rg (o_addG rfl rfl h.1 ?_))))
    replace h := h.2
    refine mvZ (.int .i64 (x6 + 1)) rfl (nZ ?_)
    exact ⟨(((x6 + 1), (tops ++ [r4]), x9), (g33, g25)), (canon (fc vr (fc vr (fc vr (fc vr (fc vr (fc vr (fc vr (fc vr (fc vr (fc vr (fn))))))))))) (sc rfl (sc rfl (sc rfl (sc rfl (sc rfl (sc rfl (sc rfl (sn))))))))), h⟩
  replace h := h.2 hb4
  refine Vc.exit' (exB_self ?_)
  refine qZ (rZ (mvZ (.sl 1 rg 144 g20 0 tops.length) rfl (wZ rg (o_idxR0 td76 sz3 (by decide) rfl rfl h.1 ?_))))
  have hi5 := h.1
  replace h := h.2
  refine wZ rg (o_loadR1 (atL (k := 144) rfl) sz3 ag3 rfl (lt_of hi5 (by first | rfl | omega | (simp only [go_sem] <;> omega))) rfl (v := .int .i64 (at' tops 0)) rfl (wZ rg (o_faP td70 rfl rfl (by rw [sz3]; decide) rfl ?_)))
  refine wZ rg (o_storeB (atL (k := 8) rfl) sz3 (by decide) rfl (w := .int .i64 (at' tops 0)) rfl rfl rfl (v := .agg [.int .i64 ((m.P.length : Int) * (m.Phases.length : Int)), .sl 3 rg 9001 g21 0 x7.length, .int .i64 (at' tops 0)]) rfl setL (nZ ?_))
  obtain ⟨J, h, hJ⟩ := h
  refine Vc.join' (σ := ((Int × (List GNode)) × (Nat × Nat × Nat × Nat))) (fun y => J y.1) (fun y => envOf [(1, .ptr rg 1 y.2.1 0 0), (2, .ptr rg 2 y.2.2.1 0 0), (8, .ptr rg 8 y.2.2.2.1 0 0)]) (fun y => stL S rg [(1, .arr 2 [eMission m], y.2.1), (2, .arr 3 [.agg [.int .i64 0, .nil, .int .i64 0]], y.2.2.1), (8, .arr 3 [.agg [.int .i64 ((m.P.length : Int) * (m.Phases.length : Int)), .sl 3 rg 9001 y.2.2.2.2 0 y.1.2.length, .int .i64 y.1.1]], y.2.2.2.1), (9001, .arr 3 (List.map eNode y.1.2), y.2.2.2.2)]) (fun y h => ?_) ?_
  · obtain ⟨⟨x11, x12⟩, ⟨g34, g35, g36, g37⟩⟩ := y
    replace h := hJ (x11, x12) h
    show Vc _ _ _ _ (envOf [(1, .ptr rg 1 g34 0 0), (2, .ptr rg 2 g35 0 0), (8, .ptr rg 8 g36 0 0)]) (stL S rg [(1, .arr 2 [eMission m], g34), (2, .arr 3 [.agg [.int .i64 0, .nil, .int .i64 0]], g35), (8, .arr 3 [.agg [.int .i64 ((m.P.length : Int) * (m.Phases.length : Int)), .sl 3 rg 9001 g37 0 x12.length, .int .i64 x11]], g36), (9001, .arr 3 (List.map eNode x12), g37)])
    refine qZ (qZ (rZ (wZ rg (o_faP td70 rfl rfl (by rw [sz68]; decide) rfl (wZ rg (o_loadB1 (atL (k := 8) rfl) sz68 ag68 rfl rfl (v := .sl 3 rg 9001 g37 0 x12.length) rfl (wZ rg (o_lenR td68 rfl (wZ rg (o_gtr rfl rfl (nZ ?_)))))))))))
    refine Vc.cond' rfl (fun hb7 => ?_) (fun hb7 => ?_)
    · replace h := h.1 hb7
      refine qZ (rZ (wZ rg (o_build td70 zav70 bok70 szs70 sz70 (ps := []) rfl rfl (v := .agg [.int .i64 0, .nil, .int .i64 0]) rfl (wZ rg (o_iface (by rw [td107]; trivial) (v := .int .i64 4) rfl (wZ rg (o_storeB (atL (k := 2) rfl) sz70 (by decide) rfl (w := .agg [.int .i64 0, .nil, .int .i64 0]) rfl rfl rfl (v := .agg [.int .i64 0, .nil, .int .i64 0]) rfl setL (asZ .nil rfl ?_))))))))
      refine asZ (.iface 107 (.int .i64 4)) rfl (nZ ?_)
      refine Vc.ret' ?_
      refine res_cellA (atL (k := 2) rfl) sz70 (by decide) ag70 rfl rfl (v := .agg [.int .i64 0, .nil, .int .i64 0]) rfl (res_tmp (v := .nil) rfl (res_tmp (v := .iface 107 (.int .i64 4)) rfl (res_nil ?_)))
      show Gives _ (.tuple [.agg [.int .i64 0, .nil, .int .i64 0], .nil, .iface 107 (.int .i64 4)]) _
      exact gives_out hrg (VW.tupL (vl' (VW.aggL (vl' vr (vl' (VW.nilL) (vl' vr (vn))))) (vl' (VW.nilL) (vl' vr (vn))))) (hQ _ _ _ h)
    replace h := h.2 hb7
    refine Vc.skip' ?_
    refine qZ (rZ (asZ .nil rfl (nZ (qZ (qZ (rZ (wZ rg (o_faP td94 rfl rfl (by rw [sz92]; decide) rfl (wZ rg (o_loadB1 (atL (k := 1) rfl) sz92 ag92 rfl rfl (v := eL (eL eRat) m.P) rfl (wZ rg (o_len td92 rfl (mvZ (.int .i64 0) rfl (nZ ?_))))))))))))))
    refine Vc.blk ?_
    refine Vc.mat 24 180 3 rfl (by decide) (fun g38 => ?_)
    obtain ⟨I, μ, h0, hI⟩ := h
    refine Vc.loop' (σ := ((Int × (List GRat)) × (Nat))) (fun y => I y.1) (fun y => μ y.1) (fun y => envOf [(2, .ptr rg 2 g35 0 0), (8, .ptr rg 8 g36 0 0), (24, .sl 3 rg 180 y.2 0 y.1.2.length), (163, eL (eL eRat) m.P), (164, .int .i64 (m.P.length : Int)), (165, .int .i64 y.1.1)]) (fun y => stL S rg [(2, .arr 3 [.agg [.int .i64 0, .nil, .int .i64 0]], g35), (8, .arr 3 [.agg [.int .i64 ((m.P.length : Int) * (m.Phases.length : Int)), .sl 3 rg 9001 g37 0 x12.length, .int .i64 x11]], g36), (180, .arr 3 (List.map eRat y.1.2), y.2), (9001, .arr 3 (List.map eNode x12), g37)]) ((0, []), g38) (canon (fc vr (fc vr (fc (VW.slen (by first | rfl | omega | (simp only [go_sem] <;> omega))) (fc vr (fc vr (fc vr (fn))))))) (sc rfl (sc rfl (sc rfl (sc rfl (sn)))))) h0 (fun y h => ?_)
    obtain ⟨⟨x13, p⟩, g39⟩ := y
    replace h := hI (x13, p) h
    show Vc _ _ _ _ (envOf [(2, .ptr rg 2 g35 0 0), (8, .ptr rg 8 g36 0 0), (24, .sl 3 rg 180 g39 0 p.length), (163, eL (eL eRat) m.P), (164, .int .i64 (m.P.length : Int)), (165, .int .i64 x13)]) (stL S rg [(2, .arr 3 [.agg [.int .i64 0, .nil, .int .i64 0]], g35), (8, .arr 3 [.agg [.int .i64 ((m.P.length : Int) * (m.Phases.length : Int)), .sl 3 rg 9001 g37 0 x12.length, .int .i64 x11]], g36), (180, .arr 3 (List.map eRat p), g39), (9001, .arr 3 (List.map eNode x12), g37)])
    refine qZ (rZ (wZ rg (o_lss rfl rfl (nZ (qZ ?_)))))
    refine Vc.cond' rfl (fun hb8 => ?_) (fun hb8 => ?_)
    · replace h := h.1 hb8
      refine Vc.skip' ?_
      refine qZ ?_
      refine Vc.blk ?_
      refine qZ (rZ (wZ rg (o_idxL td92 sz22 (by decide) (fun _ => rfl) rfl rfl h.1 ?_)))
      replace h := h.2
      refine wZ rg (o_loadI1 sz22 ag22 rfl rfl (v := eL eRat (at' m.P x13)) rfl (asZ (eL eRat (at' m.P x13)) rfl (nZ (qZ (rZ (mvZ (eL eRat (at' m.P x13)) rfl (wZ rg (o_len td22 rfl (mvZ (.int .i64 0) rfl (nZ ?_))))))))))
      refine Vc.blk ?_
      obtain ⟨I, μ, h0, hI⟩ := h
      refine Vc.loop' (σ := ((Int × (List GRat)) × (Nat))) (fun y => I y.1) (fun y => μ y.1) (fun y => envOf [(2, .ptr rg 2 g35 0 0), (8, .ptr rg 8 g36 0 0), (24, .sl 3 rg 180 y.2 0 y.1.2.length), (163, eL (eL eRat) m.P), (164, .int .i64 (m.P.length : Int)), (165, .int .i64 x13), (169, eL eRat (at' m.P x13)), (170, .int .i64 ((at' m.P x13).length : Int)), (171, .int .i64 y.1.1)]) (fun y => stL S rg [(2, .arr 3 [.agg [.int .i64 0, .nil, .int .i64 0]], g35), (8, .arr 3 [.agg [.int .i64 ((m.P.length : Int) * (m.Phases.length : Int)), .sl 3 rg 9001 g37 0 x12.length, .int .i64 x11]], g36), (180, .arr 3 (List.map eRat y.1.2), y.2), (9001, .arr 3 (List.map eNode x12), g37)]) ((0, p), g39) (canon (fc vr (fc vr (fc vr (fc vr (fc vr (fc vr (fc vr (fc vr (fc vr (fn)))))))))) (sc rfl (sc rfl (sc rfl (sc rfl (sn)))))) h0 (fun y h => ?_)
      obtain ⟨⟨x14, p1⟩, g40⟩ := y
      replace h := hI (x14, p1) h
      show Vc _ _ _ _ (envOf [(2, .ptr rg 2 g35 0 0), (8, .ptr rg 8 g36 0 0), (24, .sl 3 rg 180 g40 0 p1.length), (163, eL (eL eRat) m.P), (164, .int .i64 (m.P.length : Int)), (165, .int .i64 x13), (169, eL eRat (at' m.P x13)), (170, .int .i64 ((at' m.P x13).length : Int)), (171, .int .i64 x14)]) (stL S rg [(2, .arr 3 [.agg [.int .i64 0, .nil, .int .i64 0]], g35), (8, .arr 3 [.agg [.int .i64 ((m.P.length : Int) * (m.Phases.length : Int)), .sl 3 rg 9001 g37 0 x12.length, .int .i64 x11]], g36), (180, .arr 3 (List.map eRat p1), g40), (9001, .arr 3 (List.map eNode x12), g37)])
      refine qZ (rZ (wZ rg (o_lss rfl rfl (nZ (qZ ?_)))))
      refine Vc.cond' rfl (fun hb9 => ?_) (fun hb9 => ?_)
      · replace h := h.1 hb9
        refine Vc.skip' ?_
        refine qZ ?_
        refine Vc.blk ?_
        refine qZ (rZ (wZ rg (o_idxL td22 sz27 (by decide) (fun _ => rfl) rfl rfl h.1 ?_)))
        replace h := h.2
        refine wZ rg (o_loadIA sz27 (by decide) ag27 rfl rfl (v := eRat (at' (at' m.P x13) x14)) rfl (wZ rg (o_alloc zav27 ok27 (kk := 3) rfl (fun g41 => (wZ rg (o_storeB (atL (k := 28) rfl) sz27 (by decide) rfl (w := eRat (at' (at' m.P x13) x14)) rfl rfl rfl (v := eRat (at' (at' m.P x13) x14)) rfl setL (nZ (rZ (mvZ (.sl 3 rg 180 g40 0 p1.length) rfl ?_)))))))))
        refine wZ rg (o_loadBA (atL (k := 28) rfl) sz27 (by decide) ag27 rfl rfl (v := eRat (at' (at' m.P x13) x14)) rfl (wZ rg (o_build td27 zav27 bok27 szs27 sz27 (ps := []) rfl rfl (v := .agg [.bool false, .nil, .nil]) rfl ?_)))
        refine wZ rg (o_call (us := [eRat (at' (at' m.P x13) x14), eRat (⟨false, [], []⟩ : GRat)]) rfl (vl' vr (vl' (VW.aggL (vl' vr (vl' (VW.nilL) (vl' (VW.nilL) (vn))))) (vn))) (rational_Add_ctr h fun r5 h => (wZ rg (o_bslice td22 ok27 zav27 (es := [eRat r5]) rfl (kk := 3) rfl rfl rfl rfl rfl rfl (fun g42 => ?_)))))
        refine wZ rg (o_appR td22 bts27 ok27 zav27 (es := p1) (xs := [r5]) (enc := eRat) (atL (k := 180) rfl) (by first | rfl | omega | (simp only [go_sem] <;> omega)) (view_rowE (atL (k := 179) rfl) (by first | rfl | omega | (simp only [go_sem] <;> omega))) (kk := 3) rfl rfl (fun _ => rfl) (fun _ => rfl) h.1 rfl (fun _ => setL) (fun g43 => ?_))
        replace h := h.2
        refine asZ (.sl 3 rg 180 g43 0 ((p1 ++ [r5]).length)) rfl (nZ (rZ (wZ rg (o_addG rfl rfl h.1 ?_))))
        replace h := h.2
        refine mvZ (.int .i64 (x14 + 1)) rfl (nZ ?_)
        exact ⟨(((x14 + 1), (p1 ++ [r5])), g43), (canon (fc vr (fc vr (fc vr (fc vr (fc vr (fc vr (fc vr (fc vr (fc vr (fn)))))))))) (sc rfl (sc rfl (sc rfl (sc rfl (sn)))))), h⟩
      replace h := h.2 hb9
      refine Vc.exit' (exB_self ?_)
      refine rZ ?_
      refine wZ rg (o_addG rfl rfl h.1 ?_)
      replace h := h.2
      refine mvZ (.int .i64 (x13 + 1)) rfl (nZ ?_)
      exact ⟨(((x13 + 1), p1), g40), (canon (fc vr (fc vr (fc vr (fc vr (fc vr (fc vr (fn))))))) (sc rfl (sc rfl (sc rfl (sc rfl (sn)))))), h⟩
    replace h := h.2 hb8
    refine Vc.exit' (exB_self ?_)
    refine qZ (rZ (wZ rg (o_loadBA (atL (k := 8) rfl) sz70 (by decide) ag70 rfl rfl (v := .agg [.int .i64 ((m.P.length : Int) * (m.Phases.length : Int)), .sl 3 rg 9001 g37 0 x12.length, .int .i64 x11]) rfl (mvZ (.sl 3 rg 180 g39 0 p.length) rfl ?_))))
    refine wZ rg (o_storeB (atL (k := 2) rfl) sz70 (by decide) rfl (w := .agg [.int .i64 ((m.P.length : Int) * (m.Phases.length : Int)), .sl 3 rg 9001 g37 0 x12.length, .int .i64 x11]) rfl rfl rfl (v := .agg [.int .i64 ((m.P.length : Int) * (m.Phases.length : Int)), .sl 3 rg 9001 g37 0 x12.length, .int .i64 x11]) rfl setL (asZ (.sl 3 rg 180 g39 0 p.length) rfl (asZ .niface rfl (nZ ?_))))
    refine Vc.ret' ?_
    refine res_cellA (atL (k := 2) rfl) sz70 (by decide) ag70 rfl rfl (v := .agg [.int .i64 ((m.P.length : Int) * (m.Phases.length : Int)), .sl 3 rg 9001 g37 0 x12.length, .int .i64 x11]) rfl (res_tmp (v := .sl 3 rg 180 g39 0 p.length) rfl (res_tmp (v := .niface) rfl (res_nil ?_)))
    show Gives _ (.tuple [.agg [.int .i64 ((m.P.length : Int) * (m.Phases.length : Int)), .sl 3 rg 9001 g37 0 x12.length, .int .i64 x11], .sl 3 rg 180 g39 0 p.length, .niface]) _
    refine gives_freeze (k := 180) (xs := List.map eRat p) rfl (v' := .tuple [.agg [.int .i64 ((m.P.length : Int) * (m.Phases.length : Int)), .sl 3 rg 9001 g37 0 x12.length, .int .i64 x11], eL eRat p, .niface]) (VW.tupL (vl' (VW.aggL (vl' vr (vl' (frz_ne rfl) (vl' vr (vn))))) (vl' (frz_full rfl) (vl' vr (vn))))) ?_
    refine gives_freeze (k := 9001) (xs := List.map eNode x12) rfl (v' := .tuple [.agg [.int .i64 ((m.P.length : Int) * (m.Phases.length : Int)), eL eNode x12, .int .i64 x11], eL eRat p, .niface]) (VW.tupL (vl' (VW.aggL (vl' vr (vl' (frz_full rfl) (vl' vr (vn))))) (vl' vr (vl' vr (vn))))) ?_
    exact gives_out hrg (VW.tupL (vl' vr (vl' vr (vl' vr (vn))))) (hQ _ _ _ h)
  refine qZ (rZ (mvZ (.int .i64 (m.Phases.length : Int)) rfl (wZ rg (o_gtr rfl rfl (nZ ?_)))))
  refine Vc.cond' rfl (fun hb10 => ?_) (fun hb10 => ?_)
  · replace h := h.1 hb10
    refine rZ ?_
    refine mvZ (.fn (.func 128) [] [.ptr rg 8 g3 0 0]) rfl (mvZ (.sl 1 rg 144 g20 0 tops.length) rfl ?_)
    refine Wl.wk (canon_freeze (k := 144) (xs := List.map (AV.int .i64) tops) rfl (es := [(1, .ptr rg 1 g1 0 0), (2, .ptr rg 2 g2 0 0), (8, .ptr rg 8 g3 0 0), (152, .fn (.func 128) [] [.ptr rg 8 g3 0 0]), (153, eL (AV.int .i64) tops)]) (fc vr (fc vr (fc vr (fc vr (fc (frz_full rfl) (fn)))))) (m := [(1, .arr 2 [eMission m], g1), (2, .arr 3 [.agg [.int .i64 0, .nil, .int .i64 0]], g2), (8, .arr 3 [.agg [.int .i64 ((m.P.length : Int) * (m.Phases.length : Int)), .sl 3 rg 9001 g21 0 x7.length, .int .i64 (at' tops 0)]], g3), (9001, .arr 3 (List.map eNode x7), g21)]) (sc rfl (sc rfl (sc rfl (sc rfl (sn)))))) ?_
    refine wZ rg (o_call (us := [AV.int .i64 3, AV.int .i64 0, eL (AV.int .i64) tops, .ptr rg 8 g3 0 0]) rfl (vl' vr (vl' vr (vl' vr (vl' vr (vn))))) (ctrX (sx_c (atL (k := 8) rfl) (sx_c (atL (k := 9001) rfl) (sx_n))) (phases_Unfold_1__e_ctr (dk_c (ni_c (ni_o rfl) (ni_n)) (dk_c (ni_n) (dk_n))) h fun u2 r6 g44 h => ?_)))
    refine Wl.eqS (sy_c (sy_c (sx_n) setL) setL) ?_
    refine wZ rg (o_faP td70 rfl rfl (by rw [sz3]; decide) rfl (wZ rg (o_storeB (atL (k := 8) rfl) sz3 (by decide) rfl (w := .int .i64 r6) rfl rfl rfl (v := .agg [.int .i64 ((m.P.length : Int) * (m.Phases.length : Int)), .sl 3 rg 9001 g44 0 u2.length, .int .i64 r6]) rfl setL (nZ ?_))))
    exact ⟨((r6, u2), (g1, g2, g3, g44)), (canon (fc vr (fc vr (fc vr (fn)))) (sc rfl (sc rfl (sc rfl (sc rfl (sn)))))), h⟩
  replace h := h.2 hb10
  refine Vc.skip' ?_
  exact ⟨(((at' tops 0), x7), (g1, g2, g3, g21)), (canon (fc vr (fc vr (fc vr (fn)))) (sc rfl (sc rfl (sc rfl (sc rfl (sn)))))), h⟩
theorem phases_CheckHistory_ctr {m : GMission} {h1 : List Int} {Q : Option Int → Prop} {S : St} {R : AV → St → Prop} (h : phases_CheckHistory_W m h1 Q) (hQ : ∀ r1, Q r1 → R (eErr 107 r1) S) :
    Ctr Try.prog 60 [eMission m, eL (AV.int .i64) h1] S R := by
  unfold phases_CheckHistory_W at h
  refine enterT Try.func60 rfl Try.ntmps60 Try.results60 (by kernel_rfl) (fun rg hrg => ?_)
  refine qZ (rZ (wZ rg (o_box (v := eMission m) rfl rfl (kk := 2) rfl (by decide) (fun g1 => (asZ .niface rfl (nZ (qZ (qZ (rZ (wZ rg (o_loadBA (atL (k := 2) rfl) sz94 (by decide) ag94 rfl rfl (v := eMission m) rfl (wZ rg (o_call (us := [eMission m]) rfl (vl' vr (vn)) (phases_Check_ctr h fun err h => (asZ (eErr 107 err) rfl (nZ (qZ (rZ (mvZ (eErr 107 err) rfl ?_)))))))))))))))))))
  refine wZ rg (o_isnon td31 (E := 107) rfl rfl rfl (nZ ?_))
  refine Vc.cond' rfl (fun hb => ?_) (fun hb => ?_)
  · replace h := h.1 hb
    refine qZ (rZ (mvZ (eErr 107 err) rfl (asZ (eErr 107 err) rfl (nZ ?_))))
    refine Vc.ret' ?_
    refine res_tmp (v := eErr 107 err) rfl (res_nil ?_)
    show Gives _ (eErr 107 err) _
    exact gives_out hrg (VW.refl _) (hQ _ h)
  replace h := h.2 hb
  refine Vc.skip' ?_
  refine qZ (qZ (rZ (mvZ (eL (AV.int .i64) h1) rfl (wZ rg (o_len td76 rfl (wZ rg (o_faP td94 rfl rfl (by rw [sz92]; decide) rfl (wZ rg (o_loadB1 (atL (k := 2) rfl) sz92 ag92 rfl rfl (v := eL (eL eRat) m.P) rfl (wZ rg (o_len td92 rfl (wZ rg (o_neq rfl rfl (nZ ?_))))))))))))))
  refine Vc.cond' rfl (fun hb1 => ?_) (fun hb1 => ?_)
  · replace h := h.1 hb1
    refine qZ (rZ (wZ rg (o_iface (by rw [td107]; trivial) (v := .int .i64 11) rfl (asZ (.iface 107 (.int .i64 11)) rfl (nZ ?_)))))
    refine Vc.ret' ?_
    refine res_tmp (v := .iface 107 (.int .i64 11)) rfl (res_nil ?_)
    show Gives _ (.iface 107 (.int .i64 11)) _
    exact gives_out hrg (VW.refl _) (hQ _ h)
  replace h := h.2 hb1
  refine Vc.skip' ?_
  refine qZ (qZ (rZ (mvZ (eL (AV.int .i64) h1) rfl (wZ rg (o_len td76 rfl (mvZ (.int .i64 0) rfl (nZ ?_)))))))
  refine Vc.blk ?_
  obtain ⟨I, μ, h0, hI⟩ := h
  refine Vc.loop' (σ := ((Int) × (Nat))) (fun y => I y.1) (fun y => μ y.1) (fun y => envOf [(2, .ptr rg 2 y.2 0 0), (20, eL (AV.int .i64) h1), (21, .int .i64 (h1.length : Int)), (22, .int .i64 y.1)]) (fun y => stL S rg [(2, .arr 2 [eMission m], y.2)]) (0, g1) (canon (fc vr (fc vr (fc vr (fc vr (fn))))) (sc rfl (sn))) h0 (fun y h => ?_)
  obtain ⟨x, g2⟩ := y
  replace h := hI x h
  show Vc _ _ _ _ (envOf [(2, .ptr rg 2 g2 0 0), (20, eL (AV.int .i64) h1), (21, .int .i64 (h1.length : Int)), (22, .int .i64 x)]) (stL S rg [(2, .arr 2 [eMission m], g2)])
  refine qZ (rZ (wZ rg (o_lss rfl rfl (nZ (qZ ?_)))))
  refine Vc.cond' rfl (fun hb2 => ?_) (fun hb2 => ?_)
  · replace h := h.1 hb2
    refine Vc.skip' ?_
    refine qZ ?_
    refine Vc.blk ?_
    refine qZ (rZ (wZ rg (o_idxL td76 sz3 (by decide) (fun _ => rfl) rfl rfl h.1 ?_)))
    replace h := h.2
    refine wZ rg (o_loadI1 sz3 ag3 rfl rfl (v := .int .i64 (at' h1 x)) rfl (asZ (.int .i64 (at' h1 x)) rfl (nZ ?_)))
    obtain ⟨J, h, hJ⟩ := h
    refine Vc.join' (σ := ((Bool) × (Nat))) (fun y => J y.1) (fun y => envOf [(2, .ptr rg 2 y.2 0 0), (20, eL (AV.int .i64) h1), (21, .int .i64 (h1.length : Int)), (22, .int .i64 x), (34, .bool y.1)]) (fun y => stL S rg [(2, .arr 2 [eMission m], y.2)]) (fun y h => ?_) ?_
    · obtain ⟨x1, g3⟩ := y
      replace h := hJ x1 h
      show Vc _ _ _ _ (envOf [(2, .ptr rg 2 g3 0 0), (20, eL (AV.int .i64) h1), (21, .int .i64 (h1.length : Int)), (22, .int .i64 x), (34, .bool x1)]) (stL S rg [(2, .arr 2 [eMission m], g3)])
      refine Vc.cond' rfl (fun hb3 => ?_) (fun hb3 => ?_)
      · replace h := h.1 hb3
        refine qZ (rZ (wZ rg (o_iface (by rw [td107]; trivial) (v := .int .i64 3) rfl (asZ (.iface 107 (.int .i64 3)) rfl (nZ ?_)))))
        refine Vc.ret' ?_
        refine res_tmp (v := .iface 107 (.int .i64 3)) rfl (res_nil ?_)
        show Gives _ (.iface 107 (.int .i64 3)) _
        exact gives_out hrg (VW.refl _) (hQ _ h)
      replace h := h.2 hb3
      refine Vc.skip' ?_
      refine rZ ?_
      refine wZ rg (o_addG rfl rfl h.1 ?_)
      replace h := h.2
      refine mvZ (.int .i64 (x + 1)) rfl (nZ ?_)
      exact ⟨((x + 1), g3), (canon (fc vr (fc vr (fc vr (fc vr (fn))))) (sc rfl (sn))), h⟩
    refine rZ ?_
    refine mvZ (.int .i64 (at' h1 x)) rfl (wZ rg (o_lss rfl rfl (mvZ (.bool (decide ((at' h1 x) < 0))) rfl ?_)))
    refine Wl.guard rfl rfl (fun hb4 => ?_) (fun hb4 => ?_)
    · replace h := h.2 hb4
      refine mvZ (.int .i64 (at' h1 x)) rfl ?_
      refine Wl.guardT rfl rfl hb4 ?_
      refine wZ rg (o_faP td94 rfl rfl (by rw [sz91]; decide) rfl ?_)
      refine Wl.guardT rfl rfl hb4 ?_
      refine wZ rg (o_loadB1 (atL (k := 2) rfl) sz91 ag91 rfl rfl (v := eL eFormula m.Phases) rfl ?_)
      refine Wl.guardT rfl rfl hb4 ?_
      refine wZ rg (o_len td91 rfl ?_)
      refine Wl.guardT rfl rfl hb4 ?_
      refine wZ rg (o_gtr rfl rfl (wZ rg (o_pickF rfl hb4 (v := .bool (decide ((m.Phases.length : Int) < (at' h1 x)))) rfl (nZ ?_))))
      exact ⟨((decide ((m.Phases.length : Int) < (at' h1 x))), g2), (canon (fc vr (fc vr (fc vr (fc vr (fc vr (fn)))))) (sc rfl (sn))), h⟩
    replace h := h.1 hb4
    refine Wl.guardF rfl rfl hb4 rfl ?_
    refine Wl.guardF rfl rfl hb4 rfl ?_
    refine Wl.guardF rfl rfl hb4 rfl ?_
    refine Wl.guardF rfl rfl hb4 rfl ?_
    refine wZ rg (o_pickT rfl hb4 (v := .bool true) rfl (nZ ?_))
    exact ⟨(true, g2), (canon (fc vr (fc vr (fc vr (fc vr (fc vr (fn)))))) (sc rfl (sn))), h⟩
  replace h := h.2 hb2
  refine Vc.exit' (exB_self ?_)
  refine qZ (rZ (asZ .niface rfl (nZ ?_)))
  refine Vc.ret' ?_
  refine res_tmp (v := .niface) rfl (res_nil ?_)
  show Gives _ .niface _
  exact gives_out hrg (VW.refl _) (hQ _ h)
theorem phases_failed_ctr {h1 : List Int} {j : Int} {Q : Int → Prop} {S : St} {R : AV → St → Prop} (h : phases_failed_W h1 j Q) (hQ : ∀ r1, Q r1 → R (AV.int .i64 r1) S) :
    Ctr Try.prog 134 [eL (AV.int .i64) h1, AV.int .i64 j] S R := by
  unfold phases_failed_W at h
  refine enterT Try.func134 rfl Try.ntmps134 Try.results134 (by kernel_rfl) (fun rg hrg => ?_)
  refine qZ (rZ (asZ (.int .i64 0) rfl (nZ (qZ (rZ (asZ (.int .i64 0) rfl (nZ (qZ (qZ (rZ (mvZ (eL (AV.int .i64) h1) rfl (wZ rg (o_len td76 rfl (mvZ (.int .i64 0) rfl (nZ ?_)))))))))))))))
  refine Vc.blk ?_
  obtain ⟨I, μ, h0, hI⟩ := h
  refine Vc.loop' (σ := (Int × Int)) (fun y => I y) (fun y => μ y) (fun y => envOf [(1, .int .i64 j), (5, .int .i64 y.1), (8, eL (AV.int .i64) h1), (9, .int .i64 (h1.length : Int)), (10, .int .i64 y.2)]) (fun y => stL S rg []) (0, 0) (canon (fc vr (fc vr (fc vr (fc vr (fc vr (fn)))))) (sn)) h0 (fun y h => ?_)
  obtain ⟨set, x⟩ := y
  replace h := hI (set, x) h
  show Vc _ _ _ _ (envOf [(1, .int .i64 j), (5, .int .i64 set), (8, eL (AV.int .i64) h1), (9, .int .i64 (h1.length : Int)), (10, .int .i64 x)]) (stL S rg [])
  refine qZ (rZ (wZ rg (o_lss rfl rfl (nZ (qZ ?_)))))
  refine Vc.cond' rfl (fun hb => ?_) (fun hb => ?_)
  · replace h := h.1 hb
    refine Vc.skip' ?_
    refine qZ ?_
    refine Vc.blk ?_
    refine qZ (rZ (mvZ (.int .i64 x) rfl (wZ rg (o_idxL td76 sz3 (by decide) (fun _ => rfl) rfl rfl h.1 ?_))))
    replace h := h.2
    refine wZ rg (o_loadI1 sz3 ag3 rfl rfl (v := .int .i64 (at' h1 x)) rfl (asZ (.int .i64 x) rfl (asZ (.int .i64 (at' h1 x)) rfl (nZ (qZ (rZ (mvZ (.int .i64 (at' h1 x)) rfl (mvZ (.int .i64 j) rfl (wZ rg (o_leq rfl rfl (nZ ?_)))))))))))
    refine Vc.cond' rfl (fun hb1 => ?_) (fun hb1 => ?_)
    · replace h := h.1 hb1
      refine rZ ?_
      refine mvZ (.int .i64 set) rfl (mvZ (.int .i64 x) rfl (wZ rg (o_shlG rfl rfl h.1 ?_)))
      replace h := h.2
      refine wZ rg (o_or rfl rfl (asZ (.int .i64 (bits .or .i64 set (1 * 2 ^ (Int.toNat x)))) rfl (nZ (rZ (wZ rg (o_addG rfl rfl h.1 ?_))))))
      replace h := h.2
      refine mvZ (.int .i64 (x + 1)) rfl (nZ ?_)
      exact ⟨((bits .or .i64 set (1 * 2 ^ (Int.toNat x))), (x + 1)), (canon (fc vr (fc vr (fc vr (fc vr (fc vr (fn)))))) (sn)), h⟩
    replace h := h.2 hb1
    refine Vc.skip' ?_
    refine rZ ?_
    refine wZ rg (o_addG rfl rfl h.1 ?_)
    replace h := h.2
    refine mvZ (.int .i64 (x + 1)) rfl (nZ ?_)
    exact ⟨(set, (x + 1)), (canon (fc vr (fc vr (fc vr (fc vr (fc vr (fn)))))) (sn)), h⟩
  replace h := h.2 hb
  refine Vc.exit' (exB_self ?_)
  refine qZ (rZ (mvZ (.int .i64 set) rfl (asZ (.int .i64 set) rfl (nZ ?_))))
  refine Vc.ret' ?_
  refine res_tmp (v := .int .i64 set) rfl (res_nil ?_)
  show Gives _ (.int .i64 set) _
  exact gives_out hrg (VW.refl _) (hQ _ h)
theorem phases_Fails_ctr {m : GMission} {h1 : List Int} {Q : Int → Option Int → Prop} {S : St} {R : AV → St → Prop} (h : phases_Fails_W m h1 Q) (hQ : ∀ r1 r2, Q r1 r2 → R (.tuple [AV.int .i64 r1, eErr 107 r2]) S) :
    Ctr Try.prog 66 [eMission m, eL (AV.int .i64) h1] S R := by
  unfold phases_Fails_W at h
  refine enterT Try.func66 rfl Try.ntmps66 Try.results66 (by kernel_rfl) (fun rg hrg => ?_)
  refine qZ (rZ (wZ rg (o_box (v := eMission m) rfl rfl (kk := 2) rfl (by decide) (fun g1 => (asZ (.int .i64 0) rfl (asZ .niface rfl (nZ (qZ (qZ (rZ (wZ rg (o_loadBA (atL (k := 2) rfl) sz94 (by decide) ag94 rfl rfl (v := eMission m) rfl (mvZ (eL (AV.int .i64) h1) rfl (wZ rg (o_call (us := [eMission m, eL (AV.int .i64) h1]) rfl (vl' vr (vl' vr (vn))) (phases_CheckHistory_ctr h fun err h => ?_))))))))))))))))
  refine asZ (eErr 107 err) rfl (nZ (qZ (rZ (mvZ (eErr 107 err) rfl (wZ rg (o_isnon td31 (E := 107) rfl rfl rfl (nZ ?_)))))))
  refine Vc.cond' rfl (fun hb => ?_) (fun hb => ?_)
  · replace h := h.1 hb
    refine qZ (rZ (mvZ (eErr 107 err) rfl (asZ (.int .i64 0) rfl (asZ (eErr 107 err) rfl (nZ ?_)))))
    refine Vc.ret' ?_
    refine res_tmp (v := .int .i64 0) rfl (res_tmp (v := eErr 107 err) rfl (res_nil ?_))
    show Gives _ (.tuple [.int .i64 0, eErr 107 err]) _
    exact gives_out hrg (VW.tupL (vl' vr (vl' vr (vn)))) (hQ _ _ h)
  replace h := h.2 hb
  refine Vc.skip' ?_
  refine qZ (qZ (rZ (wZ rg (o_faP td94 rfl rfl (by rw [sz91]; decide) rfl (wZ rg (o_loadB1 (atL (k := 2) rfl) sz91 ag91 rfl rfl (v := eL eFormula m.Phases) rfl (wZ rg (o_len td91 rfl (mvZ (.int .i64 0) rfl (nZ ?_))))))))))
  refine Vc.blk ?_
  obtain ⟨I, μ, h0, hI⟩ := h
  refine Vc.loop' (σ := (Int)) (fun y => I y) (fun y => μ y) (fun y => envOf [(1, eL (AV.int .i64) h1), (2, .ptr rg 2 g1 0 0), (18, eL eFormula m.Phases), (19, .int .i64 (m.Phases.length : Int)), (20, .int .i64 y)]) (fun y => stL S rg [(2, .arr 2 [eMission m], g1)]) 0 (canon (fc vr (fc vr (fc vr (fc vr (fc vr (fn)))))) (sc rfl (sn))) h0 (fun x h => ?_)
  replace h := hI x h
  show Vc _ _ _ _ (envOf [(1, eL (AV.int .i64) h1), (2, .ptr rg 2 g1 0 0), (18, eL eFormula m.Phases), (19, .int .i64 (m.Phases.length : Int)), (20, .int .i64 x)]) (stL S rg [(2, .arr 2 [eMission m], g1)])
  refine qZ (rZ (wZ rg (o_lss rfl rfl (nZ (qZ ?_)))))
  refine Vc.cond' rfl (fun hb1 => ?_) (fun hb1 => ?_)
  · replace h := h.1 hb1
    refine Vc.skip' ?_
    refine qZ ?_
    refine Vc.blk ?_
    refine qZ (rZ (mvZ (.int .i64 x) rfl (wZ rg (o_idxL td91 sz70 (by decide) (fun _ => rfl) rfl rfl h.1 ?_))))
    replace h := h.2
    refine wZ rg (o_loadIA sz70 (by decide) ag70 rfl rfl (v := eFormula (at' m.Phases x)) rfl (wZ rg (o_alloc zav70 ok70 (kk := 3) rfl (fun g2 => (asZ (.int .i64 x) rfl (wZ rg (o_storeB (atL (k := 8) rfl) sz70 (by decide) rfl (w := eFormula (at' m.Phases x)) rfl rfl rfl (v := eFormula (at' m.Phases x)) rfl setL (nZ (qZ ?_)))))))))
    obtain ⟨r, hc, h⟩ := h
    obtain ⟨r1, r2, hc1, h⟩ := h
    refine Vc.drawn' mixed rg (usOf [(3, pc (.int .i64 r)), (4, pc (.tuple [.bool r1, eErr 107 r2]))]) (by kernel_rfl) ?_
    refine dL (E := ([(rg, 8)], [])) rfl rfl (by simp) (cfn) (o_loadBA (atL (k := 8) rfl) sz70 (by decide) ag70 rfl rfl (v := eFormula (at' m.Phases x)) rfl (dP rfl rfl (o_move (v := eL (AV.int .i64) h1) rfl (dP rfl rfl (o_move (v := .int .i64 x) rfl ?_)))))
    refine dC (vs := [eL (AV.int .i64) h1, AV.int .i64 x]) rfl (vl' vr (vl' vr (vn))) (fun _ => phases_failed_ctr hc (fun _ hr => ⟨by rw [hr], rfl⟩)) rfl ?_
    refine dC (vs := [eFormula (at' m.Phases x), AV.int .i64 r]) rfl (vl' vr (vl' vr (vn))) (fun _ => formula_Value_ctr hc1 (fun _ _ hr => ⟨by rw [hr.1, hr.2], rfl⟩)) rfl ?_
    refine dP rfl rfl (o_move (v := .tuple [.bool r1, eErr 107 r2]) rfl (dP rfl rfl (o_extract (v := .bool r1) rfl rfl rfl (dP rfl rfl (o_extract (v := eErr 107 r2) rfl rfl rfl (dP rfl rfl (o_assign (v := .bool r1) rfl (dP rfl rfl (o_assign (v := eErr 107 r2) rfl (dN (qZ (qZ (rZ (mvZ (eErr 107 r2) rfl (wZ rg (o_isnon td31 (E := 107) rfl rfl rfl (nZ ?_)))))))))))))))))
    refine Vc.cond' rfl (fun hb2 => ?_) (fun hb2 => ?_)
    · replace h := h.1 hb2
      refine qZ (rZ (mvZ (eErr 107 r2) rfl (asZ (.int .i64 0) rfl (asZ (eErr 107 r2) rfl (nZ ?_)))))
      refine Vc.ret' ?_
      refine res_tmp (v := .int .i64 0) rfl (res_tmp (v := eErr 107 r2) rfl (res_nil ?_))
      show Gives _ (.tuple [.int .i64 0, eErr 107 r2]) _
      exact gives_out hrg (VW.tupL (vl' vr (vl' vr (vn)))) (hQ _ _ h)
    replace h := h.2 hb2
    refine Vc.skip' ?_
    refine qZ (rZ (mvZ (.bool r1) rfl (nZ ?_)))
    refine Vc.cond' rfl (fun hb3 => ?_) (fun hb3 => ?_)
    · replace h := h.1 hb3
      refine qZ (rZ (mvZ (.int .i64 x) rfl (asZ (.int .i64 x) rfl (asZ .niface rfl (nZ ?_)))))
      refine Vc.ret' ?_
      refine res_tmp (v := .int .i64 x) rfl (res_tmp (v := .niface) rfl (res_nil ?_))
      show Gives _ (.tuple [.int .i64 x, .niface]) _
      exact gives_out hrg (VW.tupL (vl' vr (vl' vr (vn)))) (hQ _ _ h)
    replace h := h.2 hb3
    refine Vc.skip' ?_
    refine rZ ?_
    refine wZ rg (o_addG rfl rfl h.1 ?_)
    replace h := h.2
    refine mvZ (.int .i64 (x + 1)) rfl (nZ ?_)
    exact ⟨(x + 1), (canon (fc vr (fc vr (fc vr (fc vr (fc vr (fn)))))) (sc rfl (sn))), h⟩
  replace h := h.2 hb1
  refine Vc.exit' (exB_self ?_)
  refine qZ (rZ (wZ rg (o_faP td94 rfl rfl (by rw [sz91]; decide) rfl (wZ rg (o_loadB1 (atL (k := 2) rfl) sz91 ag91 rfl rfl (v := eL eFormula m.Phases) rfl (wZ rg (o_len td91 rfl (asZ (.int .i64 (m.Phases.length : Int)) rfl (asZ .niface rfl (nZ ?_))))))))))
  refine Vc.ret' ?_
  refine res_tmp (v := .int .i64 (m.Phases.length : Int)) rfl (res_tmp (v := .niface) rfl (res_nil ?_))
  show Gives _ (.tuple [.int .i64 (m.Phases.length : Int), .niface]) _
  exact gives_out hrg (VW.tupL (vl' vr (vl' vr (vn)))) (hQ _ _ h)
theorem phases_State_ctr {m : GMission} {h1 : List Int} {Q : Int → Option Int → Prop} {S : St} {R : AV → St → Prop} (h : phases_State_W m h1 Q) (hQ : ∀ r1 r2, Q r1 r2 → R (.tuple [AV.int .i64 r1, eErr 107 r2]) S) :
    Ctr Try.prog 67 [eMission m, eL (AV.int .i64) h1] S R := by
  unfold phases_State_W at h
  refine enterT Try.func67 rfl Try.ntmps67 Try.results67 (by kernel_rfl) (fun rg hrg => ?_)
  refine qZ (rZ (wZ rg (o_box (v := eMission m) rfl rfl (kk := 2) rfl (by decide) (fun g1 => (asZ (.int .i64 0) rfl (asZ .niface rfl (nZ (qZ (qZ (rZ (wZ rg (o_loadBA (atL (k := 2) rfl) sz94 (by decide) ag94 rfl rfl (v := eMission m) rfl (mvZ (eL (AV.int .i64) h1) rfl (wZ rg (o_call (us := [eMission m, eL (AV.int .i64) h1]) rfl (vl' vr (vl' vr (vn))) (phases_CheckHistory_ctr h fun err h => ?_))))))))))))))))
  refine asZ (eErr 107 err) rfl (nZ (qZ (rZ (mvZ (eErr 107 err) rfl (wZ rg (o_isnon td31 (E := 107) rfl rfl rfl (nZ ?_)))))))
  refine Vc.cond' rfl (fun hb => ?_) (fun hb => ?_)
  · replace h := h.1 hb
    refine qZ (rZ (mvZ (eErr 107 err) rfl (asZ (.int .i64 0) rfl (asZ (eErr 107 err) rfl (nZ ?_)))))
    refine Vc.ret' ?_
    refine res_tmp (v := .int .i64 0) rfl (res_tmp (v := eErr 107 err) rfl (res_nil ?_))
    show Gives _ (.tuple [.int .i64 0, eErr 107 err]) _
    exact gives_out hrg (VW.tupL (vl' vr (vl' vr (vn)))) (hQ _ _ h)
  replace h := h.2 hb
  refine Vc.skip' ?_
  refine qZ (rZ (asZ (.int .i64 0) rfl (nZ (qZ (qZ (rZ (mvZ (eL (AV.int .i64) h1) rfl (wZ rg (o_len td76 rfl (mvZ (.int .i64 0) rfl (nZ ?_)))))))))))
  refine Vc.blk ?_
  obtain ⟨I, μ, h0, hI⟩ := h
  refine Vc.loop' (σ := (Int × Int)) (fun y => I y) (fun y => μ y) (fun y => envOf [(2, .ptr rg 2 g1 0 0), (7, .int .i64 y.1), (16, eL (AV.int .i64) h1), (17, .int .i64 (h1.length : Int)), (18, .int .i64 y.2)]) (fun y => stL S rg [(2, .arr 2 [eMission m], g1)]) (0, 0) (canon (fc vr (fc vr (fc vr (fc vr (fc vr (fn)))))) (sc rfl (sn))) h0 (fun y h => ?_)
  obtain ⟨set, x⟩ := y
  replace h := hI (set, x) h
  show Vc _ _ _ _ (envOf [(2, .ptr rg 2 g1 0 0), (7, .int .i64 set), (16, eL (AV.int .i64) h1), (17, .int .i64 (h1.length : Int)), (18, .int .i64 x)]) (stL S rg [(2, .arr 2 [eMission m], g1)])
  refine qZ (rZ (wZ rg (o_lss rfl rfl (nZ (qZ ?_)))))
  refine Vc.cond' rfl (fun hb1 => ?_) (fun hb1 => ?_)
  · replace h := h.1 hb1
    refine Vc.skip' ?_
    refine qZ ?_
    refine Vc.blk ?_
    refine qZ (rZ (mvZ (.int .i64 x) rfl (wZ rg (o_idxL td76 sz3 (by decide) (fun _ => rfl) rfl rfl h.1 ?_))))
    replace h := h.2
    refine wZ rg (o_loadI1 sz3 ag3 rfl rfl (v := .int .i64 (at' h1 x)) rfl (asZ (.int .i64 x) rfl (asZ (.int .i64 (at' h1 x)) rfl (nZ (qZ (rZ (mvZ (.int .i64 (at' h1 x)) rfl (wZ rg (o_faP td94 rfl rfl (by rw [sz91]; decide) rfl (wZ rg (o_loadB1 (atL (k := 2) rfl) sz91 ag91 rfl rfl (v := eL eFormula m.Phases) rfl (wZ rg (o_len td91 rfl (wZ rg (o_lss rfl rfl (nZ ?_))))))))))))))))
    refine Vc.cond' rfl (fun hb2 => ?_) (fun hb2 => ?_)
    · replace h := h.1 hb2
      refine rZ ?_
      refine mvZ (.int .i64 set) rfl (mvZ (.int .i64 x) rfl (wZ rg (o_faP td94 rfl rfl (by rw [sz91]; decide) rfl (wZ rg (o_loadB1 (atL (k := 2) rfl) sz91 ag91 rfl rfl (v := eL eFormula m.Phases) rfl (wZ rg (o_len td91 rfl (wZ rg (o_mulG rfl rfl h.1 ?_)))))))))
      replace h := h.2
      refine mvZ (.int .i64 (at' h1 x)) rfl (wZ rg (o_addG rfl rfl h.1 ?_))
      replace h := h.2
      refine wZ rg (o_shlG rfl rfl h.1 ?_)
      replace h := h.2
      refine wZ rg (o_or rfl rfl ?_)
      obtain ⟨set1, hs⟩ : ∃ qz, qz = (bits .or .i64 set (1 * 2 ^ (Int.toNat ((x * (m.Phases.length : Int)) + (at' h1 x))))) := ⟨_, rfl⟩
      replace h := h set1 hs
      refine wZ rg (o_assign (v := .int .i64 set1) (by subst hs; rfl) (nZ (rZ (wZ rg (o_addG rfl rfl h.1 ?_)))))
      replace h := h.2
      refine mvZ (.int .i64 (x + 1)) rfl (nZ ?_)
      exact ⟨(set1, (x + 1)), (canon (fc vr (fc vr (fc vr (fc vr (fc vr (fn)))))) (sc rfl (sn))), h⟩
    replace h := h.2 hb2
    refine Vc.skip' ?_
    refine rZ ?_
    refine wZ rg (o_addG rfl rfl h.1 ?_)
    replace h := h.2
    refine mvZ (.int .i64 (x + 1)) rfl (nZ ?_)
    exact ⟨(set, (x + 1)), (canon (fc vr (fc vr (fc vr (fc vr (fc vr (fn)))))) (sc rfl (sn))), h⟩
  replace h := h.2 hb1
  refine Vc.exit' (exB_self ?_)
  refine qZ (rZ (mvZ (.int .i64 set) rfl (asZ (.int .i64 set) rfl (asZ .niface rfl (nZ ?_)))))
  refine Vc.ret' ?_
  refine res_tmp (v := .int .i64 set) rfl (res_tmp (v := .niface) rfl (res_nil ?_))
  show Gives _ (.tuple [.int .i64 set, .niface]) _
  exact gives_out hrg (VW.tupL (vl' vr (vl' vr (vn)))) (hQ _ _ h)
theorem phases_Weight_ctr {m : GMission} {h1 : List Int} {Q : GRat → Option Int → Prop} {S : St} {R : AV → St → Prop} (h : phases_Weight_W m h1 Q) (hQ : ∀ r1 r2, Q r1 r2 → R (.tuple [eRat r1, eErr 107 r2]) S) :
    Ctr Try.prog 70 [eMission m, eL (AV.int .i64) h1] S R := by
  unfold phases_Weight_W at h
  refine enterT Try.func70 rfl Try.ntmps70 Try.results70 (by kernel_rfl) (fun rg hrg => ?_)
  refine qZ (rZ (wZ rg (o_box (v := eMission m) rfl rfl (kk := 2) rfl (by decide) (fun g1 => (wZ rg (o_alloc zav27 ok27 (kk := 3) rfl (fun g2 => (asZ .niface rfl (nZ (qZ (qZ (rZ (wZ rg (o_loadBA (atL (k := 2) rfl) sz94 (by decide) ag94 rfl rfl (v := eMission m) rfl (mvZ (eL (AV.int .i64) h1) rfl ?_)))))))))))))))
  refine wZ rg (o_call (us := [eMission m, eL (AV.int .i64) h1]) rfl (vl' vr (vl' vr (vn))) (phases_CheckHistory_ctr h fun err h => (asZ (eErr 107 err) rfl (nZ (qZ (rZ (mvZ (eErr 107 err) rfl (wZ rg (o_isnon td31 (E := 107) rfl rfl rfl (nZ ?_))))))))))
  refine Vc.cond' rfl (fun hb => ?_) (fun hb => ?_)
  · replace h := h.1 hb
    refine qZ (rZ (wZ rg (o_build td27 zav27 bok27 szs27 sz27 (ps := []) rfl rfl (v := .agg [.bool false, .nil, .nil]) rfl (mvZ (eErr 107 err) rfl (wZ rg (o_storeB (atL (k := 4) rfl) sz27 (by decide) rfl (w := .agg [.bool false, .nil, .nil]) rfl rfl rfl (v := .agg [.bool false, .nil, .nil]) rfl setL (asZ (eErr 107 err) rfl (nZ ?_))))))))
    refine Vc.ret' ?_
    refine res_cellA (atL (k := 4) rfl) sz27 (by decide) ag27 rfl rfl (v := .agg [.bool false, .nil, .nil]) rfl (res_tmp (v := eErr 107 err) rfl (res_nil ?_))
    show Gives _ (.tuple [.agg [.bool false, .nil, .nil], eErr 107 err]) _
    exact gives_out hrg (VW.tupL (vl' (VW.aggL (vl' vr (vl' (VW.nilL) (vl' (VW.nilL) (vn))))) (vl' vr (vn)))) (hQ _ _ h)
  replace h := h.2 hb
  refine Vc.skip' ?_
  refine qZ (rZ (wZ rg (o_call (us := [AV.int .i64 1]) rfl (vl' vr (vn)) (rational_Of_ctr h fun r h => (wZ rg (o_alloc zav27 ok27 (kk := 3) rfl (fun g3 => (wZ rg (o_storeB (atL (k := 7) rfl) sz27 (by decide) rfl (w := eRat r) rfl rfl rfl (v := eRat r) rfl setL (nZ (qZ (rZ (wZ rg (o_loadBA (atL (k := 7) rfl) sz27 (by decide) ag27 rfl rfl (v := eRat r) rfl ?_))))))))))))))
  refine wZ rg (o_alloc zav27 ok27 (kk := 3) rfl (fun g4 => (wZ rg (o_storeB (atL (k := 8) rfl) sz27 (by decide) rfl (w := eRat r) rfl rfl rfl (v := eRat r) rfl setL (nZ (qZ (qZ (rZ (mvZ (eL (AV.int .i64) h1) rfl (wZ rg (o_len td76 rfl (mvZ (.int .i64 0) rfl (nZ ?_)))))))))))))
  refine Vc.blk ?_
  obtain ⟨I, μ, h0, hI⟩ := h
  refine Vc.loop' (σ := ((Int × GRat) × (Nat × Nat × Nat × Nat))) (fun y => I y.1) (fun y => μ y.1) (fun y => envOf [(2, .ptr rg 2 y.2.1 0 0), (4, .ptr rg 4 y.2.2.1 0 0), (7, .ptr rg 7 y.2.2.2.1 0 0), (8, .ptr rg 8 y.2.2.2.2 0 0), (22, eL (AV.int .i64) h1), (23, .int .i64 (h1.length : Int)), (24, .int .i64 y.1.1)]) (fun y => stL S rg [(2, .arr 2 [eMission m], y.2.1), (4, .arr 3 [.agg [.bool false, .nil, .nil]], y.2.2.1), (7, .arr 3 [eRat r], y.2.2.2.1), (8, .arr 3 [eRat y.1.2], y.2.2.2.2)]) ((0, r), (g1, g2, g3, g4)) (canon (fc vr (fc vr (fc vr (fc vr (fc vr (fc vr (fc vr (fn)))))))) (sc rfl (sc rfl (sc rfl (sc rfl (sn)))))) h0 (fun y h => ?_)
  obtain ⟨⟨x, x1⟩, ⟨g5, g6, g7, g8⟩⟩ := y
  replace h := hI (x, x1) h
  show Vc _ _ _ _ (envOf [(2, .ptr rg 2 g5 0 0), (4, .ptr rg 4 g6 0 0), (7, .ptr rg 7 g7 0 0), (8, .ptr rg 8 g8 0 0), (22, eL (AV.int .i64) h1), (23, .int .i64 (h1.length : Int)), (24, .int .i64 x)]) (stL S rg [(2, .arr 2 [eMission m], g5), (4, .arr 3 [.agg [.bool false, .nil, .nil]], g6), (7, .arr 3 [eRat r], g7), (8, .arr 3 [eRat x1], g8)])
  refine qZ (rZ (wZ rg (o_lss rfl rfl (nZ (qZ ?_)))))
  refine Vc.cond' rfl (fun hb1 => ?_) (fun hb1 => ?_)
  · replace h := h.1 hb1
    refine Vc.skip' ?_
    refine qZ ?_
    refine Vc.blk ?_
    refine qZ (rZ (mvZ (.int .i64 x) rfl (wZ rg (o_idxL td76 sz3 (by decide) (fun _ => rfl) rfl rfl h.1 ?_))))
    replace h := h.2
    refine wZ rg (o_loadI1 sz3 ag3 rfl rfl (v := .int .i64 (at' h1 x)) rfl (asZ (.int .i64 x) rfl (asZ (.int .i64 (at' h1 x)) rfl (nZ (qZ ?_)))))
    have hg := h.1
    replace h := h.2
    have hg1 := h.1
    replace h := h.2
    have hg2 := h.1
    replace h := h.2
    refine Vc.drawn' mixed rg (fun _ => jcr2) (by kernel_rfl) ?_
    refine dP rfl rfl (o_faP td94 rfl rfl (by rw [sz92]; decide) rfl (dL (E := ([(rg, 2)], [])) rfl rfl (by simp) (cfn) (o_loadB1 (atL (k := 2) rfl) sz92 ag92 rfl rfl (v := eL (eL eRat) m.P) rfl (dP rfl rfl (o_move (v := .int .i64 x) rfl (dP rfl rfl (o_idxL td92 sz22 (by decide) (fun _ => rfl) rfl rfl hg (dP rfl rfl (o_loadI1 sz22 ag22 rfl rfl (v := eL eRat (at' m.P x)) rfl ?_)))))))))
    refine dP rfl rfl (o_move (v := .int .i64 (at' h1 x)) rfl (dP rfl rfl (o_addG rfl rfl hg1 (dP rfl rfl (o_faP td94 rfl rfl (by rw [sz91]; decide) rfl (dL (E := ([(rg, 2)], [])) rfl rfl (by simp) (cfa (by simp [apartE]) (cfn)) (o_loadB1 (atL (k := 2) rfl) sz91 ag91 rfl rfl (v := eL eFormula m.Phases) rfl (dP rfl rfl (o_len td91 rfl (dP rfl rfl (o_min rfl rfl ?_)))))))))))
    refine dP rfl rfl (o_sliceL td22 sz27 (by decide) (fun _ => rfl) rfl (l := 0) (h := (min ((at' h1 x) + 1) (m.Phases.length : Int))) rfl rfl hg2 (dP rfl rfl (o_len td22 rfl (dP rfl rfl (o_move (v := .int .i64 0) rfl (dN ?_))))))
    refine Vc.blk ?_
    obtain ⟨I, μ, h0, hI⟩ := h
    refine Vc.loop' (σ := ((Int × GRat) × (Nat × Nat × Nat × Nat))) (fun y => I y.1) (fun y => μ y.1) (fun y => envOf [(2, .ptr rg 2 y.2.1 0 0), (4, .ptr rg 4 y.2.2.1 0 0), (7, .ptr rg 7 y.2.2.2.1 0 0), (8, .ptr rg 8 y.2.2.2.2 0 0), (10, .int .i64 (at' h1 x)), (22, eL (AV.int .i64) h1), (23, .int .i64 (h1.length : Int)), (24, .int .i64 x), (40, eL eRat (sub' (at' m.P x) 0 (min ((at' h1 x) + 1) (m.Phases.length : Int)))), (41, .int .i64 ((sub' (at' m.P x) 0 (min ((at' h1 x) + 1) (m.Phases.length : Int))).length : Int)), (42, .int .i64 y.1.1)]) (fun y => stL S rg [(2, .arr 2 [eMission m], y.2.1), (4, .arr 3 [.agg [.bool false, .nil, .nil]], y.2.2.1), (7, .arr 3 [eRat r], y.2.2.2.1), (8, .arr 3 [eRat y.1.2], y.2.2.2.2)]) ((0, x1), (g5, g6, g7, g8)) (canon (fc vr (fc vr (fc vr (fc vr (fc vr (fc vr (fc vr (fc vr (fc vr (fc vr (fc vr (fn)))))))))))) (sc rfl (sc rfl (sc rfl (sc rfl (sn)))))) h0 (fun y h => ?_)
    obtain ⟨⟨x2, x3⟩, ⟨g9, g10, g11, g12⟩⟩ := y
    replace h := hI (x2, x3) h
    show Vc _ _ _ _ (envOf [(2, .ptr rg 2 g9 0 0), (4, .ptr rg 4 g10 0 0), (7, .ptr rg 7 g11 0 0), (8, .ptr rg 8 g12 0 0), (10, .int .i64 (at' h1 x)), (22, eL (AV.int .i64) h1), (23, .int .i64 (h1.length : Int)), (24, .int .i64 x), (40, eL eRat (sub' (at' m.P x) 0 (min ((at' h1 x) + 1) (m.Phases.length : Int)))), (41, .int .i64 ((sub' (at' m.P x) 0 (min ((at' h1 x) + 1) (m.Phases.length : Int))).length : Int)), (42, .int .i64 x2)]) (stL S rg [(2, .arr 2 [eMission m], g9), (4, .arr 3 [.agg [.bool false, .nil, .nil]], g10), (7, .arr 3 [eRat r], g11), (8, .arr 3 [eRat x3], g12)])
    refine qZ (rZ (wZ rg (o_lss rfl rfl (nZ (qZ ?_)))))
    refine Vc.cond' rfl (fun hb2 => ?_) (fun hb2 => ?_)
    · replace h := h.1 hb2
      refine Vc.skip' ?_
      refine qZ ?_
      refine Vc.blk ?_
      refine qZ (rZ (mvZ (.int .i64 x2) rfl (wZ rg (o_idxL td22 sz27 (by decide) (fun _ => rfl) rfl rfl h.1 ?_))))
      replace h := h.2
      refine wZ rg (o_loadIA sz27 (by decide) ag27 rfl rfl (v := eRat (at' (sub' (at' m.P x) 0 (min ((at' h1 x) + 1) (m.Phases.length : Int))) x2)) rfl (wZ rg (o_alloc zav27 ok27 (kk := 3) rfl (fun g13 => (asZ (.int .i64 x2) rfl ?_)))))
      refine wZ rg (o_storeB (atL (k := 12) rfl) sz27 (by decide) rfl (w := eRat (at' (sub' (at' m.P x) 0 (min ((at' h1 x) + 1) (m.Phases.length : Int))) x2)) rfl rfl rfl (v := eRat (at' (sub' (at' m.P x) 0 (min ((at' h1 x) + 1) (m.Phases.length : Int))) x2)) rfl setL (nZ ?_))
      obtain ⟨J, h, hJ⟩ := h
      refine Vc.join' (σ := ((GRat) × (Nat × Nat × Nat × Nat × Nat))) (fun y => J y.1) (fun y => envOf [(2, .ptr rg 2 y.2.1 0 0), (4, .ptr rg 4 y.2.2.1 0 0), (7, .ptr rg 7 y.2.2.2.1 0 0), (8, .ptr rg 8 y.2.2.2.2.1 0 0), (10, .int .i64 (at' h1 x)), (12, .ptr rg 12 y.2.2.2.2.2 0 0), (22, eL (AV.int .i64) h1), (23, .int .i64 (h1.length : Int)), (24, .int .i64 x), (40, eL eRat (sub' (at' m.P x) 0 (min ((at' h1 x) + 1) (m.Phases.length : Int)))), (41, .int .i64 ((sub' (at' m.P x) 0 (min ((at' h1 x) + 1) (m.Phases.length : Int))).length : Int)), (42, .int .i64 x2)]) (fun y => stL S rg [(2, .arr 2 [eMission m], y.2.1), (4, .arr 3 [.agg [.bool false, .nil, .nil]], y.2.2.1), (7, .arr 3 [eRat r], y.2.2.2.1), (8, .arr 3 [eRat x3], y.2.2.2.2.1), (12, .arr 3 [eRat y.1], y.2.2.2.2.2)]) (fun y h => ?_) ?_
      · obtain ⟨x4, ⟨g14, g15, g16, g17, g18⟩⟩ := y
        replace h := hJ x4 h
        show Vc _ _ _ _ (envOf [(2, .ptr rg 2 g14 0 0), (4, .ptr rg 4 g15 0 0), (7, .ptr rg 7 g16 0 0), (8, .ptr rg 8 g17 0 0), (10, .int .i64 (at' h1 x)), (12, .ptr rg 12 g18 0 0), (22, eL (AV.int .i64) h1), (23, .int .i64 (h1.length : Int)), (24, .int .i64 x), (40, eL eRat (sub' (at' m.P x) 0 (min ((at' h1 x) + 1) (m.Phases.length : Int)))), (41, .int .i64 ((sub' (at' m.P x) 0 (min ((at' h1 x) + 1) (m.Phases.length : Int))).length : Int)), (42, .int .i64 x2)]) (stL S rg [(2, .arr 2 [eMission m], g14), (4, .arr 3 [.agg [.bool false, .nil, .nil]], g15), (7, .arr 3 [eRat r], g16), (8, .arr 3 [eRat x3], g17), (12, .arr 3 [eRat x4], g18)])
        refine rZ ?_
        refine wZ rg (o_loadBA (atL (k := 8) rfl) sz27 (by decide) ag27 rfl rfl (v := eRat x3) rfl (wZ rg (o_loadBA (atL (k := 12) rfl) sz27 (by decide) ag27 rfl rfl (v := eRat x4) rfl (wZ rg (o_call (us := [eRat x3, eRat x4]) rfl (vl' vr (vl' vr (vn))) (rational_Mul_ctr h fun r1 h => (wZ rg (o_storeB (atL (k := 8) rfl) sz27 (by decide) rfl (w := eRat r1) rfl rfl rfl (v := eRat r1) rfl setL (nZ (rZ ?_))))))))))
        refine wZ rg (o_addG rfl rfl h.1 ?_)
        replace h := h.2
        refine mvZ (.int .i64 (x2 + 1)) rfl (nZ ?_)
        exact ⟨(((x2 + 1), r1), (g14, g15, g16, g17)), (canon (fc vr (fc vr (fc vr (fc vr (fc vr (fc vr (fc vr (fc vr (fc vr (fc vr (fc vr (fn)))))))))))) (sc rfl (sc rfl (sc rfl (sc rfl (sn)))))), h⟩
      refine qZ (rZ (mvZ (.int .i64 x2) rfl (mvZ (.int .i64 (at' h1 x)) rfl (wZ rg (o_lss rfl rfl (nZ ?_))))))
      refine Vc.cond' rfl (fun hb3 => ?_) (fun hb3 => ?_)
      · replace h := h.1 hb3
        refine rZ ?_
        refine wZ rg (o_loadBA (atL (k := 7) rfl) sz27 (by decide) ag27 rfl rfl (v := eRat r) rfl (wZ rg (o_loadBA (atL (k := 12) rfl) sz27 (by decide) ag27 rfl rfl (v := eRat (at' (sub' (at' m.P x) 0 (min ((at' h1 x) + 1) (m.Phases.length : Int))) x2)) rfl ?_)))
        refine wZ rg (o_call (us := [eRat r, eRat (at' (sub' (at' m.P x) 0 (min ((at' h1 x) + 1) (m.Phases.length : Int))) x2)]) rfl (vl' vr (vl' vr (vn))) (rational_Sub_ctr h fun r2 h => (wZ rg (o_storeB (atL (k := 12) rfl) sz27 (by decide) rfl (w := eRat r2) rfl rfl rfl (v := eRat r2) rfl setL (nZ ?_)))))
        exact ⟨(r2, (g9, g10, g11, g12, g13)), (canon (fc vr (fc vr (fc vr (fc vr (fc vr (fc vr (fc vr (fc vr (fc vr (fc vr (fc vr (fc vr (fn))))))))))))) (sc rfl (sc rfl (sc rfl (sc rfl (sc rfl (sn))))))), h⟩
      replace h := h.2 hb3
      refine Vc.skip' ?_
      exact ⟨((at' (sub' (at' m.P x) 0 (min ((at' h1 x) + 1) (m.Phases.length : Int))) x2), (g9, g10, g11, g12, g13)), (canon (fc vr (fc vr (fc vr (fc vr (fc vr (fc vr (fc vr (fc vr (fc vr (fc vr (fc vr (fc vr (fn))))))))))))) (sc rfl (sc rfl (sc rfl (sc rfl (sc rfl (sn))))))), h⟩
    replace h := h.2 hb2
    refine Vc.exit' (exB_self ?_)
    refine rZ ?_
    refine wZ rg (o_addG rfl rfl h.1 ?_)
    replace h := h.2
    refine mvZ (.int .i64 (x + 1)) rfl (nZ ?_)
    exact ⟨(((x + 1), x3), (g9, g10, g11, g12)), (canon (fc vr (fc vr (fc vr (fc vr (fc vr (fc vr (fc vr (fn)))))))) (sc rfl (sc rfl (sc rfl (sc rfl (sn)))))), h⟩
  replace h := h.2 hb1
  refine Vc.exit' (exB_self ?_)
  refine qZ (rZ (wZ rg (o_loadBA (atL (k := 8) rfl) sz27 (by decide) ag27 rfl rfl (v := eRat x1) rfl (wZ rg (o_storeB (atL (k := 4) rfl) sz27 (by decide) rfl (w := eRat x1) rfl rfl rfl (v := eRat x1) rfl setL (asZ .niface rfl (nZ ?_)))))))
  refine Vc.ret' ?_
  refine res_cellA (atL (k := 4) rfl) sz27 (by decide) ag27 rfl rfl (v := eRat x1) rfl (res_tmp (v := .niface) rfl (res_nil ?_))
  show Gives _ (.tuple [eRat x1, .niface]) _
  exact gives_out hrg (VW.tupL (vl' vr (vl' vr (vn)))) (hQ _ _ h)
end Go.Proofs.Ytonbnfgknijpoaa
