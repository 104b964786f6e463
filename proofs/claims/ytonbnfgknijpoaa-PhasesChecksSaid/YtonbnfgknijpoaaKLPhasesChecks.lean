/- Walks of functions. Conditions: none. -/
import Derived.Test.YtonbnfgknijpoaaWLPhasesChecks
import Derived.Test.YtonbnfgknijpoaaGgTy
import Derived.Test.YtonbnfgknijpoaaKB
import Derived.Test.YtonbnfgknijpoaaKH46
import Derived.Test.YtonbnfgknijpoaaKPphases
import Derived.Test.YtonbnfgknijpoaaKR46
namespace Go.Proofs.Ytonbnfgknijpoaa
open Go.Gg
set_option maxRecDepth 100000
theorem law46_PhasesChecks_ctr {m : GMission} {h1 : List Int} {Q : Bool → Prop} {S : St} {R : AV → St → Prop} (h : law46_PhasesChecks_W m h1 Q) (hQ : ∀ r1, Q r1 → R (AV.bool r1) S) :
    Ctr Try.prog 13 [eMission m, eL (AV.int .i64) h1] S R := by
  unfold law46_PhasesChecks_W at h
  refine enterT Try.func13 rfl Try.ntmps13 Try.results13 (by kernel_rfl) (fun rg hrg => ?_)
  refine qZ (rZ ?_)
  refine wZ rg (o_box (v := eMission m) rfl rfl (kk := 2) rfl (by decide) (fun g1 => ?_))
  refine asZ (.bool false) rfl ?_
  refine nZ (qZ ?_)
  obtain ⟨J, h, hJ⟩ := h
  refine Vc.join' (σ := ((Bool) × (Nat))) (fun y => J y.1) (fun y => envOf [(1, eL (AV.int .i64) h1), (2, .ptr rg 2 y.2 0 0), (15, .bool y.1)]) (fun y => stL S rg [(2, .arr 2 [eMission m], y.2)]) (fun y h => ?_) ?_
  · obtain ⟨x, g2⟩ := y
    replace h := hJ x h
    show Vc _ _ _ _ (envOf [(1, eL (AV.int .i64) h1), (2, .ptr rg 2 g2 0 0), (15, .bool x)]) (stL S rg [(2, .arr 2 [eMission m], g2)])
    refine Vc.cond' rfl (fun hb => ?_) (fun hb => ?_)
    · replace h := h.1 hb
      refine qZ (rZ ?_)
      refine wZ rg (o_call (us := []) rfl (vn) (law46_awake_ctr h fun r h => ?_))
      refine asZ (.bool r) rfl ?_
      refine nZ ?_
      refine Vc.ret' ?_
      refine res_tmp (v := .bool r) rfl ?_
      refine res_nil ?_
      show Gives _ (.bool r) _
      exact gives_out hrg (VW.refl _) (hQ _ h)
    replace h := h.2 hb
    refine Vc.skip' ?_
    refine qZ ?_
    obtain ⟨r1, hc, h⟩ := h
    obtain ⟨r2, hc1, h⟩ := h
    obtain ⟨r3, hc2, h⟩ := h
    rcases Bool.eq_false_or_eq_true (r2 == r3) with hb1 | hb1
    · replace h := h.1 hb1
      obtain ⟨r4, hc3, h⟩ := h
      obtain ⟨r5, hc4, h⟩ := h
      obtain ⟨r6, hc5, h⟩ := h
      refine Vc.drawn' mixed rg (usOf [(1, pc (eErr 107 r1)), (2, pc (.int .i64 r2)), (4, pc (.int .i64 r3)), (9, pc (eErr 107 r4)), (10, pc (.int .i64 r5)), (13, pc (.int .i64 r6))]) (by kernel_rfl) ?_
      refine dL (E := ([(rg, 2)], [])) rfl rfl (by simp) (cfn) (o_loadBA (atL (k := 2) rfl) sz94 (by decide) ag94 rfl rfl (v := eMission m) rfl ?_)
      refine dC (vs := [eMission m]) rfl (vl' vr (vn)) (fun _ => phases_Check_ctr hc (fun _ hr => ⟨by rw [hr], rfl⟩)) rfl ?_
      refine dC (vs := [eErr 107 r1]) rfl (vl' vr (vn)) (fun _ => base_Num_ctr hc1 (fun _ hr => ⟨by rw [hr], rfl⟩)) rfl ?_
      refine dL (E := ([(rg, 2)], [])) rfl rfl (by simp) (cfa (by simp [apartE]) (cfn)) (o_loadBA (atL (k := 2) rfl) sz94 (by decide) ag94 rfl rfl (v := eMission m) rfl ?_)
      refine dC (vs := [eMission m]) rfl (vl' vr (vn)) (fun _ => ref46_Check_ctr hc2 (fun _ hr => ⟨by rw [hr], rfl⟩)) rfl ?_
      refine dP rfl rfl (o_eql rfl rfl ?_)
      refine dP rfl rfl (o_move (v := .bool (r2 == r3)) rfl ?_)
      refine dGT rfl rfl hb1 ?_
      refine dL (E := ([(rg, 2)], [])) rfl rfl (by simp) (cfo (by kernel_rfl) (cfo (by kernel_rfl) (cfn))) (o_loadBA (atL (k := 2) rfl) sz94 (by decide) ag94 rfl rfl (v := eMission m) rfl ?_)
      refine dGT rfl rfl rfl ?_
      refine dP rfl rfl (o_move (v := eL (AV.int .i64) h1) rfl ?_)
      refine dGT rfl rfl rfl ?_
      refine dC (vs := [eMission m, eL (AV.int .i64) h1]) rfl (vl' vr (vl' vr (vn))) (fun _ => phases_CheckHistory_ctr hc3 (fun _ hr => ⟨by rw [hr], rfl⟩)) rfl ?_
      refine dGT rfl rfl rfl ?_
      refine dC (vs := [eErr 107 r4]) rfl (vl' vr (vn)) (fun _ => base_Num_ctr hc4 (fun _ hr => ⟨by rw [hr], rfl⟩)) rfl ?_
      refine dGT rfl rfl rfl ?_
      refine dL (E := ([(rg, 2)], [])) rfl rfl (by simp) (cfa (by simp [apartE]) (cfo (by kernel_rfl) (cfo (by kernel_rfl) (cfn)))) (o_loadBA (atL (k := 2) rfl) sz94 (by decide) ag94 rfl rfl (v := eMission m) rfl ?_)
      refine dGT rfl rfl rfl ?_
      refine dP rfl rfl (o_move (v := eL (AV.int .i64) h1) rfl ?_)
      refine dGT rfl rfl rfl ?_
      refine dC (vs := [eMission m, eL (AV.int .i64) h1]) rfl (vl' vr (vl' vr (vn))) (fun _ => ref46_CheckHistory_ctr hc5 (fun _ hr => ⟨by rw [hr], rfl⟩)) rfl ?_
      refine dGT rfl rfl rfl ?_
      refine dP rfl rfl (o_eql rfl rfl ?_)
      refine dP rfl rfl (o_pickT rfl rfl (v := .bool (r5 == r6)) rfl ?_)
      refine dP rfl rfl (o_assign (v := .bool (r5 == r6)) rfl ?_)
      refine dN ?_
      refine Vc.ret' ?_
      refine res_tmp (v := .bool (r5 == r6)) rfl ?_
      refine res_nil ?_
      show Gives _ (.bool (r5 == r6)) _
      exact gives_out hrg (VW.refl _) (hQ _ h)
    replace h := h.2 hb1
    refine Vc.drawn' mixed rg (usOf [(1, pc (eErr 107 r1)), (2, pc (.int .i64 r2)), (4, pc (.int .i64 r3))]) (by kernel_rfl) ?_
    refine dL (E := ([(rg, 2)], [])) rfl rfl (by simp) (cfn) (o_loadBA (atL (k := 2) rfl) sz94 (by decide) ag94 rfl rfl (v := eMission m) rfl ?_)
    refine dC (vs := [eMission m]) rfl (vl' vr (vn)) (fun _ => phases_Check_ctr hc (fun _ hr => ⟨by rw [hr], rfl⟩)) rfl ?_
    refine dC (vs := [eErr 107 r1]) rfl (vl' vr (vn)) (fun _ => base_Num_ctr hc1 (fun _ hr => ⟨by rw [hr], rfl⟩)) rfl ?_
    refine dL (E := ([(rg, 2)], [])) rfl rfl (by simp) (cfa (by simp [apartE]) (cfn)) (o_loadBA (atL (k := 2) rfl) sz94 (by decide) ag94 rfl rfl (v := eMission m) rfl ?_)
    refine dC (vs := [eMission m]) rfl (vl' vr (vn)) (fun _ => ref46_Check_ctr hc2 (fun _ hr => ⟨by rw [hr], rfl⟩)) rfl ?_
    refine dP rfl rfl (o_eql rfl rfl ?_)
    refine dP rfl rfl (o_move (v := .bool (r2 == r3)) rfl ?_)
    refine dGF rfl rfl hb1 rfl ?_
    refine dGF rfl rfl rfl rfl ?_
    refine dGF rfl rfl rfl rfl ?_
    refine dGF rfl rfl rfl rfl ?_
    refine dGF rfl rfl rfl rfl ?_
    refine dGF rfl rfl rfl rfl ?_
    refine dGF rfl rfl rfl rfl ?_
    refine dGF rfl rfl rfl rfl ?_
    refine dP rfl rfl (o_pickF rfl rfl (v := .bool false) rfl ?_)
    refine dP rfl rfl (o_assign (v := .bool false) rfl ?_)
    refine dN ?_
    refine Vc.ret' ?_
    refine res_tmp (v := .bool false) rfl ?_
    refine res_nil ?_
    show Gives _ (.bool false) _
    exact gives_out hrg (VW.refl _) (hQ _ h)
  refine rZ ?_
  refine wZ rg (o_call (us := []) rfl (vn) (law46_awake_ctr h fun r7 h => ?_))
  refine wZ rg (o_not rfl ?_)
  refine mvZ (.bool (!r7)) rfl ?_
  refine Wl.guard rfl rfl (fun hb2 => ?_) (fun hb2 => ?_)
  · replace h := h.2 hb2
    refine wZ rg (o_loadBA (atL (k := 2) rfl) sz94 (by decide) ag94 rfl rfl (v := eMission m) rfl ?_)
    refine Wl.guardT rfl rfl hb2 ?_
    refine wZ rg (o_call (us := [eMission m]) rfl (vl' vr (vn)) (law46_large_ctr h fun r8 h => ?_))
    refine wZ rg (o_pickF rfl hb2 (v := .bool r8) rfl ?_)
    refine mvZ (.bool r8) rfl ?_
    refine Wl.guard rfl rfl (fun hb3 => ?_) (fun hb3 => ?_)
    · replace h := h.2 hb3
      refine mvZ (eL (AV.int .i64) h1) rfl ?_
      refine Wl.guardT rfl rfl hb3 ?_
      refine wZ rg (o_len td76 rfl ?_)
      refine Wl.guardT rfl rfl hb3 ?_
      refine wZ rg (o_gtr rfl rfl ?_)
      refine wZ rg (o_pickF rfl hb3 (v := .bool (decide (100 < (h1.length : Int)))) rfl ?_)
      refine nZ ?_
      exact ⟨((decide (100 < (h1.length : Int))), g1), (canon (fc vr (fc vr (fc vr (fn)))) (sc rfl (sn))), h⟩
    replace h := h.1 hb3
    refine Wl.guardF rfl rfl hb3 rfl ?_
    refine Wl.guardF rfl rfl hb3 rfl ?_
    refine wZ rg (o_pickT rfl hb3 (v := .bool true) rfl ?_)
    refine nZ ?_
    exact ⟨(true, g1), (canon (fc vr (fc vr (fc vr (fn)))) (sc rfl (sn))), h⟩
  replace h := h.1 hb2
  refine Wl.guardF rfl rfl hb2 rfl ?_
  refine wZ rg (o_pickT rfl hb2 (v := .bool true) rfl ?_)
  refine mvZ (.bool true) rfl ?_
  refine Wl.guardF rfl rfl rfl rfl ?_
  refine Wl.guardF rfl rfl rfl rfl ?_
  refine Wl.guardF rfl rfl rfl rfl ?_
  refine wZ rg (o_pickT rfl rfl (v := .bool true) rfl ?_)
  refine nZ ?_
  exact ⟨(true, g1), (canon (fc vr (fc vr (fc vr (fn)))) (sc rfl (sn))), h⟩
end Go.Proofs.Ytonbnfgknijpoaa
