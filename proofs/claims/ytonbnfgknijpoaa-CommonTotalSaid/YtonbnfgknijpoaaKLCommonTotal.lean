/- Walks of functions. Conditions: none. -/
import Derived.Test.YtonbnfgknijpoaaWLCommonTotal
import Derived.Test.YtonbnfgknijpoaaGgTy
import Derived.Test.YtonbnfgknijpoaaKB
import Derived.Test.YtonbnfgknijpoaaKH45
import Derived.Test.YtonbnfgknijpoaaKPcommon
namespace Go.Proofs.Ytonbnfgknijpoaa
open Go.Gg
set_option maxRecDepth 100000
theorem law45_CommonTotal_ctr {p : GRat} {beta : GRat} {Q : Bool → Prop} {S : St} {R : AV → St → Prop} (h : law45_CommonTotal_W p beta Q) (hQ : ∀ r1, Q r1 → R (AV.bool r1) S) :
    Ctr Try.prog 5 [eRat p, eRat beta] S R := by
  unfold law45_CommonTotal_W at h
  refine enterT Try.func5 rfl Try.ntmps5 Try.results5 (by kernel_rfl) (fun rg hrg => ?_)
  refine qZ (rZ ?_)
  refine wZ rg (o_box (v := eRat p) rfl rfl (kk := 3) rfl (by decide) (fun g1 => ?_))
  refine wZ rg (o_box (v := eRat beta) rfl rfl (kk := 3) rfl (by decide) (fun g2 => ?_))
  refine asZ (.bool false) rfl ?_
  refine nZ (qZ ?_)
  obtain ⟨J, h, hJ⟩ := h
  refine Vc.join' (σ := ((Bool) × (Nat × Nat))) (fun y => J y.1) (fun y => envOf [(2, .ptr rg 2 y.2.1 0 0), (3, .ptr rg 3 y.2.2 0 0), (18, .bool y.1)]) (fun y => stL S rg [(2, .arr 3 [eRat p], y.2.1), (3, .arr 3 [eRat beta], y.2.2)]) (fun y h => ?_) ?_
  · obtain ⟨x, ⟨g3, g4⟩⟩ := y
    replace h := hJ x h
    show Vc _ _ _ _ (envOf [(2, .ptr rg 2 g3 0 0), (3, .ptr rg 3 g4 0 0), (18, .bool x)]) (stL S rg [(2, .arr 3 [eRat p], g3), (3, .arr 3 [eRat beta], g4)])
    refine Vc.cond' rfl (fun hb => ?_) (fun hb => ?_)
    · replace h := h.1 hb
      refine qZ (rZ ?_)
      refine wZ rg (o_call (us := []) rfl (vn) (law45_awake_ctr h fun r h => ?_))
      refine asZ (.bool r) rfl ?_
      refine nZ ?_
      refine Vc.ret' ?_
      refine res_tmp (v := .bool r) rfl ?_
      refine res_nil ?_
      show Gives _ (.bool r) _
      exact gives_out hrg (VW.refl _) (hQ _ h)
    replace h := h.2 hb
    refine Vc.skip' ?_
    refine qZ (rZ ?_)
    refine wZ rg (o_loadBA (atL (k := 2) rfl) sz27 (by decide) ag27 rfl rfl (v := eRat p) rfl ?_)
    refine wZ rg (o_loadBA (atL (k := 3) rfl) sz27 (by decide) ag27 rfl rfl (v := eRat beta) rfl ?_)
    refine wZ rg (o_call (us := [eRat p, eRat beta]) rfl (vl' vr (vl' vr (vn))) (common_Beta_ctr h fun r1 r2 r3 h => ?_))
    refine mvZ (.tuple [eRat r1, eRat r2, eErr 107 r3]) rfl ?_
    refine wZ rg (o_extract (v := eRat r1) rfl rfl rfl ?_)
    refine wZ rg (o_extract (v := eRat r2) rfl rfl rfl ?_)
    refine wZ rg (o_extract (v := eErr 107 r3) rfl rfl rfl ?_)
    refine wZ rg (o_alloc zav27 ok27 (kk := 3) rfl (fun g5 => ?_))
    refine wZ rg (o_alloc zav27 ok27 (kk := 3) rfl (fun g6 => ?_))
    refine wZ rg (o_storeB (atL (k := 5) rfl) sz27 (by decide) rfl (w := eRat r1) rfl rfl rfl (v := eRat r1) rfl setL ?_)
    refine wZ rg (o_storeB (atL (k := 6) rfl) sz27 (by decide) rfl (w := eRat r2) rfl rfl rfl (v := eRat r2) rfl setL ?_)
    refine asZ (eErr 107 r3) rfl ?_
    refine nZ (qZ (qZ (rZ ?_)))
    refine mvZ (eErr 107 r3) rfl ?_
    refine wZ rg (o_isnon td31 (E := 107) rfl rfl rfl ?_)
    refine nZ ?_
    refine Vc.cond' rfl (fun hb1 => ?_) (fun hb1 => ?_)
    · replace h := h.1 hb1
      refine qZ (rZ ?_)
      refine wZ rg (o_loadBA (atL (k := 2) rfl) sz27 (by decide) ag27 rfl rfl (v := eRat p) rfl ?_)
      refine wZ rg (o_call (us := [eRat p]) rfl (vl' vr (vn)) (rational_Prob_ctr h fun r4 h => ?_))
      refine wZ rg (o_not rfl ?_)
      refine mvZ (.bool (!r4)) rfl ?_
      refine Wl.guard rfl rfl (fun hb2 => ?_) (fun hb2 => ?_)
      · replace h := h.2 hb2
        refine wZ rg (o_loadBA (atL (k := 3) rfl) sz27 (by decide) ag27 rfl rfl (v := eRat beta) rfl ?_)
        refine Wl.guardT rfl rfl hb2 ?_
        refine wZ rg (o_call (us := [eRat beta]) rfl (vl' vr (vn)) (rational_Prob_ctr h fun r5 h => ?_))
        refine Wl.guardT rfl rfl hb2 ?_
        refine wZ rg (o_not rfl ?_)
        refine wZ rg (o_pickF rfl hb2 (v := .bool (!r5)) rfl ?_)
        refine asZ (.bool (!r5)) rfl ?_
        refine nZ ?_
        refine Vc.ret' ?_
        refine res_tmp (v := .bool (!r5)) rfl ?_
        refine res_nil ?_
        show Gives _ (.bool (!r5)) _
        exact gives_out hrg (VW.refl _) (hQ _ h)
      replace h := h.1 hb2
      refine Wl.guardF rfl rfl hb2 rfl ?_
      refine Wl.guardF rfl rfl hb2 rfl ?_
      refine wZ rg (o_pickT rfl hb2 (v := .bool true) rfl ?_)
      refine asZ (.bool true) rfl ?_
      refine nZ ?_
      refine Vc.ret' ?_
      refine res_tmp (v := .bool true) rfl ?_
      refine res_nil ?_
      show Gives _ (.bool true) _
      exact gives_out hrg (VW.refl _) (hQ _ h)
    replace h := h.2 hb1
    refine Vc.skip' ?_
    refine qZ (rZ ?_)
    refine wZ rg (o_call (us := [AV.int .i64 1]) rfl (vl' vr (vn)) (rational_Of_ctr h fun r6 h => ?_))
    refine wZ rg (o_alloc zav27 ok27 (kk := 3) rfl (fun g7 => ?_))
    refine wZ rg (o_storeB (atL (k := 8) rfl) sz27 (by decide) rfl (w := eRat r6) rfl rfl rfl (v := eRat r6) rfl setL ?_)
    refine nZ (qZ ?_)
    obtain ⟨r7, hc, h⟩ := h
    obtain ⟨r8, hc1, h⟩ := h
    obtain ⟨r9, hc2, h⟩ := h
    refine Vc.drawn' mixed rg (usOf [(2, pc (eRat r7)), (5, pc (eRat r8)), (6, pc (eRat r9))]) (by kernel_rfl) ?_
    refine dL (E := ([(rg, 8)], none)) rfl rfl (by simp) (cfn) (o_loadBA (atL (k := 8) rfl) sz27 (by decide) ag27 rfl rfl (v := eRat r6) rfl ?_)
    refine dL (E := ([(rg, 5)], none)) rfl rfl (by simp) (cfa (by simp [apartE]) (cfn)) (o_loadBA (atL (k := 5) rfl) sz27 (by decide) ag27 rfl rfl (v := eRat r1) rfl ?_)
    refine dC (vs := [eRat r6, eRat r1]) rfl (vl' vr (vl' vr (vn))) (fun _ => rational_Sub_ctr hc (fun _ hr => ⟨by rw [hr], rfl⟩)) rfl ?_
    refine dL (E := ([(rg, 8)], none)) rfl rfl (by simp) (cfa (by simp [apartE]) (cfa (by simp [apartE]) (cfn))) (o_loadBA (atL (k := 8) rfl) sz27 (by decide) ag27 rfl rfl (v := eRat r6) rfl ?_)
    refine dL (E := ([(rg, 6)], none)) rfl rfl (by simp) (cfa (by simp [apartE]) (cfa (by simp [apartE]) (cfa (by simp [apartE]) (cfn)))) (o_loadBA (atL (k := 6) rfl) sz27 (by decide) ag27 rfl rfl (v := eRat r2) rfl ?_)
    refine dC (vs := [eRat r6, eRat r2]) rfl (vl' vr (vl' vr (vn))) (fun _ => rational_Sub_ctr hc1 (fun _ hr => ⟨by rw [hr], rfl⟩)) rfl ?_
    refine dC (vs := [eRat r7, eRat r8]) rfl (vl' vr (vl' vr (vn))) (fun _ => rational_Mul_ctr hc2 (fun _ hr => ⟨by rw [hr], rfl⟩)) rfl ?_
    refine dL (E := ([], some (rg, 9))) rfl rfl (by simp) (cfa (by simp [apartE]) (cfa (by simp [apartE]) (cfa (by simp [apartE]) (cfa (by simp [apartE]) (cfn))))) (o_alloc zav27 ok27 (kk := 3) rfl (fun g8 => ?_))
    refine dL (E := ([], some (rg, 9))) rfl rfl (by simp) (cfo (by kernel_rfl) (cfo (by kernel_rfl) (cfo (by kernel_rfl) (cfo (by kernel_rfl) (cfo (by kernel_rfl) (cfn)))))) (o_storeB (atL (k := 9) rfl) sz27 (by decide) rfl (w := eRat r9) rfl rfl rfl (v := eRat r9) rfl setL ?_)
    refine dN ?_
    refine qZ (qZ ?_)
    obtain ⟨r10, hc3, h⟩ := h
    rcases Bool.eq_false_or_eq_true (!r10) with hb3 | hb3
    · replace h := h.1 hb3
      refine Vc.drawn' mixed rg (usOf [(1, pc (.bool r10))]) (by kernel_rfl) ?_
      refine dL (E := ([(rg, 5)], none)) rfl rfl (by simp) (cfn) (o_loadBA (atL (k := 5) rfl) sz27 (by decide) ag27 rfl rfl (v := eRat r1) rfl ?_)
      refine dC (vs := [eRat r1]) rfl (vl' vr (vn)) (fun _ => rational_Prob_ctr hc3 (fun _ hr => ⟨by rw [hr], rfl⟩)) rfl ?_
      refine dP rfl rfl (o_not rfl ?_)
      refine dP rfl rfl (o_move (v := .bool (!r10)) rfl ?_)
      refine dGF rfl rfl hb3 rfl ?_
      refine dGF rfl rfl rfl rfl ?_
      refine dGF rfl rfl rfl rfl ?_
      refine dP rfl rfl (o_pickT rfl rfl (v := .bool true) rfl ?_)
      refine dP rfl rfl (o_move (v := .bool true) rfl ?_)
      refine dGF rfl rfl rfl rfl ?_
      refine dGF rfl rfl rfl rfl ?_
      refine dGF rfl rfl rfl rfl ?_
      refine dGF rfl rfl rfl rfl ?_
      refine dGF rfl rfl rfl rfl ?_
      refine dGF rfl rfl rfl rfl ?_
      refine dP rfl rfl (o_pickT rfl rfl (v := .bool true) rfl ?_)
      refine dN ?_
      refine Vc.cond' rfl (fun _ => ?_) (fun hb => Bool.noConfusion hb)
      refine qZ (rZ ?_)
      refine asZ (.bool false) rfl ?_
      refine nZ ?_
      refine Vc.ret' ?_
      refine res_tmp (v := .bool false) rfl ?_
      refine res_nil ?_
      show Gives _ (.bool false) _
      exact gives_out hrg (VW.refl _) (hQ _ h)
    replace h := h.2 hb3
    obtain ⟨r11, hc4, h⟩ := h
    rcases Bool.eq_false_or_eq_true (!r11) with hb4 | hb4
    · replace h := h.1 hb4
      refine Vc.drawn' mixed rg (usOf [(1, pc (.bool r10)), (5, pc (.bool r11))]) (by kernel_rfl) ?_
      refine dL (E := ([(rg, 5)], none)) rfl rfl (by simp) (cfn) (o_loadBA (atL (k := 5) rfl) sz27 (by decide) ag27 rfl rfl (v := eRat r1) rfl ?_)
      refine dC (vs := [eRat r1]) rfl (vl' vr (vn)) (fun _ => rational_Prob_ctr hc3 (fun _ hr => ⟨by rw [hr], rfl⟩)) rfl ?_
      refine dP rfl rfl (o_not rfl ?_)
      refine dP rfl rfl (o_move (v := .bool (!r10)) rfl ?_)
      refine dGT rfl rfl hb3 ?_
      refine dL (E := ([(rg, 6)], none)) rfl rfl (by simp) (cfo (by kernel_rfl) (cfn)) (o_loadBA (atL (k := 6) rfl) sz27 (by decide) ag27 rfl rfl (v := eRat r2) rfl ?_)
      refine dGT rfl rfl rfl ?_
      refine dC (vs := [eRat r2]) rfl (vl' vr (vn)) (fun _ => rational_Prob_ctr hc4 (fun _ hr => ⟨by rw [hr], rfl⟩)) rfl ?_
      refine dGT rfl rfl rfl ?_
      refine dP rfl rfl (o_not rfl ?_)
      refine dP rfl rfl (o_pickF rfl rfl (v := .bool (!r11)) rfl ?_)
      refine dP rfl rfl (o_move (v := .bool (!r11)) rfl ?_)
      refine dGF rfl rfl hb4 rfl ?_
      refine dGF rfl rfl rfl rfl ?_
      refine dGF rfl rfl rfl rfl ?_
      refine dGF rfl rfl rfl rfl ?_
      refine dGF rfl rfl rfl rfl ?_
      refine dGF rfl rfl rfl rfl ?_
      refine dP rfl rfl (o_pickT rfl rfl (v := .bool true) rfl ?_)
      refine dN ?_
      refine Vc.cond' rfl (fun _ => ?_) (fun hb => Bool.noConfusion hb)
      refine qZ (rZ ?_)
      refine asZ (.bool false) rfl ?_
      refine nZ ?_
      refine Vc.ret' ?_
      refine res_tmp (v := .bool false) rfl ?_
      refine res_nil ?_
      show Gives _ (.bool false) _
      exact gives_out hrg (VW.refl _) (hQ _ h)
    replace h := h.2 hb4
    obtain ⟨r12, hc5, h⟩ := h
    obtain ⟨r13, hc6, h⟩ := h
    refine Vc.drawn' mixed rg (usOf [(1, pc (.bool r10)), (5, pc (.bool r11)), (11, pc (eRat r12)), (13, pc (.int .i64 r13))]) (by kernel_rfl) ?_
    refine dL (E := ([(rg, 5)], none)) rfl rfl (by simp) (cfn) (o_loadBA (atL (k := 5) rfl) sz27 (by decide) ag27 rfl rfl (v := eRat r1) rfl ?_)
    refine dC (vs := [eRat r1]) rfl (vl' vr (vn)) (fun _ => rational_Prob_ctr hc3 (fun _ hr => ⟨by rw [hr], rfl⟩)) rfl ?_
    refine dP rfl rfl (o_not rfl ?_)
    refine dP rfl rfl (o_move (v := .bool (!r10)) rfl ?_)
    refine dGT rfl rfl hb3 ?_
    refine dL (E := ([(rg, 6)], none)) rfl rfl (by simp) (cfo (by kernel_rfl) (cfn)) (o_loadBA (atL (k := 6) rfl) sz27 (by decide) ag27 rfl rfl (v := eRat r2) rfl ?_)
    refine dGT rfl rfl rfl ?_
    refine dC (vs := [eRat r2]) rfl (vl' vr (vn)) (fun _ => rational_Prob_ctr hc4 (fun _ hr => ⟨by rw [hr], rfl⟩)) rfl ?_
    refine dGT rfl rfl rfl ?_
    refine dP rfl rfl (o_not rfl ?_)
    refine dP rfl rfl (o_pickF rfl rfl (v := .bool (!r11)) rfl ?_)
    refine dP rfl rfl (o_move (v := .bool (!r11)) rfl ?_)
    refine dGT rfl rfl hb4 ?_
    refine dL (E := ([(rg, 8)], none)) rfl rfl (by simp) (cfo (by kernel_rfl) (cfo (by kernel_rfl) (cfn))) (o_loadBA (atL (k := 8) rfl) sz27 (by decide) ag27 rfl rfl (v := eRat r6) rfl ?_)
    refine dGT rfl rfl rfl ?_
    refine dL (E := ([(rg, 9)], none)) rfl rfl (by simp) (cfa (by simp [apartE]) (cfo (by kernel_rfl) (cfo (by kernel_rfl) (cfn)))) (o_loadBA (atL (k := 9) rfl) sz27 (by decide) ag27 rfl rfl (v := eRat r9) rfl ?_)
    refine dGT rfl rfl rfl ?_
    refine dC (vs := [eRat r6, eRat r9]) rfl (vl' vr (vl' vr (vn))) (fun _ => rational_Sub_ctr hc5 (fun _ hr => ⟨by rw [hr], rfl⟩)) rfl ?_
    refine dGT rfl rfl rfl ?_
    refine dL (E := ([(rg, 2)], none)) rfl rfl (by simp) (cfa (by simp [apartE]) (cfa (by simp [apartE]) (cfo (by kernel_rfl) (cfo (by kernel_rfl) (cfn))))) (o_loadBA (atL (k := 2) rfl) sz27 (by decide) ag27 rfl rfl (v := eRat p) rfl ?_)
    refine dGT rfl rfl rfl ?_
    refine dC (vs := [eRat r12, eRat p]) rfl (vl' vr (vl' vr (vn))) (fun _ => rational_Cmp_ctr hc6 (fun _ hr => ⟨by rw [hr], rfl⟩)) rfl ?_
    refine dGT rfl rfl rfl ?_
    refine dP rfl rfl (o_neq rfl rfl ?_)
    refine dP rfl rfl (o_pickF rfl rfl (v := .bool (r13 != 0)) rfl ?_)
    refine dN ?_
    refine Vc.cond' rfl (fun hb5 => ?_) (fun hb5 => ?_)
    · replace h := h.1 hb5
      refine qZ (rZ ?_)
      refine asZ (.bool false) rfl ?_
      refine nZ ?_
      refine Vc.ret' ?_
      refine res_tmp (v := .bool false) rfl ?_
      refine res_nil ?_
      show Gives _ (.bool false) _
      exact gives_out hrg (VW.refl _) (hQ _ h)
    replace h := h.2 hb5
    refine Vc.skip' ?_
    obtain ⟨J, h, hJ⟩ := h
    refine Vc.join' (σ := ((Unit) × (Nat × Nat × Nat × Nat × Nat))) (fun y => J y.1) (fun y => envOf [(2, .ptr rg 2 y.2.1 0 0), (3, .ptr rg 3 y.2.2.1 0 0), (5, .ptr rg 5 y.2.2.2.1 0 0), (6, .ptr rg 6 y.2.2.2.2.1 0 0), (8, .ptr rg 8 y.2.2.2.2.2 0 0)]) (fun y => stL S rg [(2, .arr 3 [eRat p], y.2.1), (3, .arr 3 [eRat beta], y.2.2.1), (5, .arr 3 [eRat r1], y.2.2.2.1), (6, .arr 3 [eRat r2], y.2.2.2.2.1), (8, .arr 3 [eRat r6], y.2.2.2.2.2)]) (fun y h => ?_) ?_
    · obtain ⟨_, ⟨g9, g10, g11, g12, g13⟩⟩ := y
      replace h := hJ () h
      show Vc _ _ _ _ (envOf [(2, .ptr rg 2 g9 0 0), (3, .ptr rg 3 g10 0 0), (5, .ptr rg 5 g11 0 0), (6, .ptr rg 6 g12 0 0), (8, .ptr rg 8 g13 0 0)]) (stL S rg [(2, .arr 3 [eRat p], g9), (3, .arr 3 [eRat beta], g10), (5, .arr 3 [eRat r1], g11), (6, .arr 3 [eRat r2], g12), (8, .arr 3 [eRat r6], g13)])
      refine qZ (rZ ?_)
      refine wZ rg (o_loadBA (atL (k := 3) rfl) sz27 (by decide) ag27 rfl rfl (v := eRat beta) rfl ?_)
      refine wZ rg (o_loadBA (atL (k := 8) rfl) sz27 (by decide) ag27 rfl rfl (v := eRat r6) rfl ?_)
      refine wZ rg (o_call (us := [eRat beta, eRat r6]) rfl (vl' vr (vl' vr (vn))) (rational_Cmp_ctr h fun r14 h => ?_))
      refine wZ rg (o_neq rfl rfl ?_)
      refine mvZ (.bool (r14 != 0)) rfl ?_
      refine Wl.guard rfl rfl (fun hb6 => ?_) (fun hb6 => ?_)
      · replace h := h.2 hb6
        refine wZ rg (o_loadBA (atL (k := 5) rfl) sz27 (by decide) ag27 rfl rfl (v := eRat r1) rfl ?_)
        refine Wl.guardT rfl rfl hb6 ?_
        refine wZ rg (o_call (us := [eRat r1]) rfl (vl' vr (vn)) (rational_Sign_ctr h fun r15 h => ?_))
        refine Wl.guardT rfl rfl hb6 ?_
        refine wZ rg (o_eql rfl rfl ?_)
        refine Wl.guardT rfl rfl hb6 ?_
        refine mvZ (.bool (r15 == 0)) rfl ?_
        refine Wl.guard rfl rfl (fun hb7 => ?_) (fun hb7 => ?_)
        · replace h := h.1 hb7
          refine wZ rg (o_loadBA (atL (k := 6) rfl) sz27 (by decide) ag27 rfl rfl (v := eRat r2) rfl ?_)
          refine Wl.guardT rfl rfl hb7 ?_
          refine wZ rg (o_loadBA (atL (k := 2) rfl) sz27 (by decide) ag27 rfl rfl (v := eRat p) rfl ?_)
          refine Wl.guardT rfl rfl hb7 ?_
          refine wZ rg (o_call (us := [eRat r2, eRat p]) rfl (vl' vr (vl' vr (vn))) (rational_Cmp_ctr h fun r16 h => ?_))
          refine Wl.guardT rfl rfl hb7 ?_
          refine wZ rg (o_eql rfl rfl ?_)
          refine Wl.guardT rfl rfl hb6 ?_
          refine wZ rg (o_pickT rfl hb7 (v := .bool (r16 == 0)) rfl ?_)
          refine wZ rg (o_pickF rfl hb6 (v := .bool (r16 == 0)) rfl ?_)
          refine asZ (.bool (r16 == 0)) rfl ?_
          refine nZ ?_
          refine Vc.ret' ?_
          refine res_tmp (v := .bool (r16 == 0)) rfl ?_
          refine res_nil ?_
          show Gives _ (.bool (r16 == 0)) _
          exact gives_out hrg (VW.refl _) (hQ _ h)
        replace h := h.2 hb7
        refine Wl.guardF rfl rfl hb7 rfl ?_
        refine Wl.guardF rfl rfl hb7 rfl ?_
        refine Wl.guardF rfl rfl hb7 rfl ?_
        refine Wl.guardT rfl rfl hb6 ?_
        refine wZ rg (o_pickF rfl hb7 (v := .bool false) rfl ?_)
        refine wZ rg (o_pickF rfl hb6 (v := .bool false) rfl ?_)
        refine asZ (.bool false) rfl ?_
        refine nZ ?_
        refine Vc.ret' ?_
        refine res_tmp (v := .bool false) rfl ?_
        refine res_nil ?_
        show Gives _ (.bool false) _
        exact gives_out hrg (VW.refl _) (hQ _ h)
      replace h := h.1 hb6
      refine Wl.guardF rfl rfl hb6 rfl ?_
      refine Wl.guardF rfl rfl hb6 rfl ?_
      refine Wl.guardF rfl rfl hb6 rfl ?_
      refine Wl.guardU rfl rfl ?_
      refine Wl.guardU rfl rfl ?_
      refine Wl.guardU rfl rfl ?_
      refine Wl.guardU rfl rfl ?_
      refine Wl.guardF rfl rfl hb6 rfl ?_
      refine wZ rg (o_pickT rfl hb6 (v := .bool true) rfl ?_)
      refine asZ (.bool true) rfl ?_
      refine nZ ?_
      refine Vc.ret' ?_
      refine res_tmp (v := .bool true) rfl ?_
      refine res_nil ?_
      show Gives _ (.bool true) _
      exact gives_out hrg (VW.refl _) (hQ _ h)
    refine qZ (rZ ?_)
    refine wZ rg (o_loadBA (atL (k := 3) rfl) sz27 (by decide) ag27 rfl rfl (v := eRat beta) rfl ?_)
    refine wZ rg (o_call (us := [eRat beta]) rfl (vl' vr (vn)) (rational_Sign_ctr h fun r17 h => ?_))
    refine wZ rg (o_eql rfl rfl ?_)
    refine mvZ (.bool (r17 == 0)) rfl ?_
    refine Wl.guard rfl rfl (fun hb8 => ?_) (fun hb8 => ?_)
    · replace h := h.1 hb8
      refine wZ rg (o_loadBA (atL (k := 6) rfl) sz27 (by decide) ag27 rfl rfl (v := eRat r2) rfl ?_)
      refine Wl.guardT rfl rfl hb8 ?_
      refine wZ rg (o_call (us := [eRat r2]) rfl (vl' vr (vn)) (rational_Sign_ctr h fun r18 h => ?_))
      refine Wl.guardT rfl rfl hb8 ?_
      refine wZ rg (o_neq rfl rfl ?_)
      refine wZ rg (o_pickT rfl hb8 (v := .bool (r18 != 0)) rfl ?_)
      refine nZ ?_
      refine Vc.cond' rfl (fun hb9 => ?_) (fun hb9 => ?_)
      · replace h := h.1 hb9
        refine qZ (rZ ?_)
        refine asZ (.bool false) rfl ?_
        refine nZ ?_
        refine Vc.ret' ?_
        refine res_tmp (v := .bool false) rfl ?_
        refine res_nil ?_
        show Gives _ (.bool false) _
        exact gives_out hrg (VW.refl _) (hQ _ h)
      replace h := h.2 hb9
      refine Vc.skip' ?_
      exact ⟨((), (g3, g4, g5, g6, g7)), (canon (fc vr (fc vr (fc vr (fc vr (fc vr (fn)))))) (sc rfl (sc rfl (sc rfl (sc rfl (sc rfl (sn))))))), h⟩
    replace h := h.2 hb8
    refine Wl.guardF rfl rfl hb8 rfl ?_
    refine Wl.guardF rfl rfl hb8 rfl ?_
    refine wZ rg (o_pickF rfl hb8 (v := .bool false) rfl ?_)
    refine nZ ?_
    refine Vc.cond' rfl (fun hb => Bool.noConfusion hb) (fun _ => ?_)
    refine Vc.skip' ?_
    exact ⟨((), (g3, g4, g5, g6, g7)), (canon (fc vr (fc vr (fc vr (fc vr (fc vr (fn)))))) (sc rfl (sc rfl (sc rfl (sc rfl (sc rfl (sn))))))), h⟩
  refine rZ ?_
  refine wZ rg (o_call (us := []) rfl (vn) (law45_awake_ctr h fun r19 h => ?_))
  refine wZ rg (o_not rfl ?_)
  refine mvZ (.bool (!r19)) rfl ?_
  refine Wl.guard rfl rfl (fun hb10 => ?_) (fun hb10 => ?_)
  · replace h := h.2 hb10
    refine wZ rg (o_loadBA (atL (k := 2) rfl) sz27 (by decide) ag27 rfl rfl (v := eRat p) rfl ?_)
    refine Wl.guardT rfl rfl hb10 ?_
    refine wZ rg (o_loadBA (atL (k := 3) rfl) sz27 (by decide) ag27 rfl rfl (v := eRat beta) rfl ?_)
    refine Wl.guardT rfl rfl hb10 ?_
    refine wZ rg (o_bslice td22 ok27 zav27 (es := [eRat p, eRat beta]) rfl (kk := 3) rfl rfl rfl rfl rfl rfl (fun g14 => ?_))
    refine Wl.guardT rfl rfl hb10 ?_
    refine Wl.wk (canon_freeze (k := 15) (xs := List.map eRat [p, beta]) rfl (es := [(2, .ptr rg 2 g1 0 0), (3, .ptr rg 3 g2 0 0), (12, .bool (!r19)), (15, eL eRat [p, beta])]) (fc vr (fc vr (fc vr (fc (frz_full rfl) (fn))))) (m := [(2, .arr 3 [eRat p], g1), (3, .arr 3 [eRat beta], g2)]) (sc rfl (sc rfl (sn)))) ?_
    refine wZ rg (o_call (us := [eL eRat [p, beta]]) rfl (vl' vr (vn)) (law45_short_ctr h fun r20 h => ?_))
    refine Wl.guardT rfl rfl hb10 ?_
    refine wZ rg (o_not rfl ?_)
    refine wZ rg (o_pickF rfl hb10 (v := .bool (!r20)) rfl ?_)
    refine nZ ?_
    exact ⟨((!r20), (g1, g2)), (canon (fc vr (fc vr (fc vr (fn)))) (sc rfl (sc rfl (sn)))), h⟩
  replace h := h.1 hb10
  refine Wl.guardF rfl rfl hb10 rfl ?_
  refine Wl.guardF rfl rfl hb10 rfl ?_
  refine Wl.guardF rfl rfl hb10 rfl ?_
  refine Wl.guardF rfl rfl hb10 rfl ?_
  refine wZ rg (o_pickT rfl hb10 (v := .bool true) rfl ?_)
  refine nZ ?_
  exact ⟨(true, (g1, g2)), (canon (fc vr (fc vr (fc vr (fn)))) (sc rfl (sc rfl (sn)))), h⟩
end Go.Proofs.Ytonbnfgknijpoaa
