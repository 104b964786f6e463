/- Walks of functions. Conditions: none. -/
import Derived.Test.YtonbnfgknijpoaaWB
import Derived.Test.YtonbnfgknijpoaaGgTy
import Derived.Test.YtonbnfgknijpoaaKB
import Derived.Test.YtonbnfgknijpoaaKBd
import Derived.Test.YtonbnfgknijpoaaKBe
import Derived.Test.YtonbnfgknijpoaaKBh
namespace Go.Proofs.Ytonbnfgknijpoaa
open Go.Gg
set_option maxRecDepth 100000
theorem ref02_Cmp_ctr {a : GRat} {b : GRat} {Q : Int → Prop} {S : St} {R : AV → St → Prop} (h : ref02_Cmp_W a b Q) (hQ : ∀ r1, Q r1 → R (AV.int .i64 r1) S) :
    Ctr Try.prog 73 [eRat a, eRat b] S R := by
  unfold ref02_Cmp_W at h
  refine enterT Try.func73 rfl Try.ntmps73 Try.results73 (by kernel_rfl) (fun rg hrg => ?_)
  refine qZ (rZ (wZ rg (o_box (v := eRat a) rfl rfl (kk := 3) rfl (by decide) (fun g1 => (wZ rg (o_box (v := eRat b) rfl rfl (kk := 3) rfl (by decide) (fun g2 => (asZ (.int .i64 0) rfl (nZ (qZ (rZ (wZ rg (o_loadBA (atL (k := 2) rfl) sz27 (by decide) ag27 rfl rfl (v := eRat a) rfl (wZ rg (o_loadBA (atL (k := 3) rfl) sz27 (by decide) ag27 rfl rfl (v := eRat b) rfl ?_)))))))))))))))
  refine wZ rg (o_call (us := [eRat a, eRat b]) rfl (vl' vr (vl' vr (vn))) (ref02_Sub_ctr h fun r h => (wZ rg (o_call (us := [eRat r]) rfl (vl' vr (vn)) (ref02_Sign_ctr h fun r1 h => (asZ (.int .i64 r1) rfl (nZ ?_)))))))
  refine Vc.ret' ?_
  refine res_tmp (v := .int .i64 r1) rfl (res_nil ?_)
  show Gives _ (.int .i64 r1) _
  exact gives_out hrg (VW.refl _) (hQ _ h)
theorem ref02_Prob_ctr {a : GRat} {Q : Bool → Prop} {S : St} {R : AV → St → Prop} (h : ref02_Prob_W a Q) (hQ : ∀ r1, Q r1 → R (AV.bool r1) S) :
    Ctr Try.prog 98 [eRat a] S R := by
  unfold ref02_Prob_W at h
  refine enterT Try.func98 rfl Try.ntmps98 Try.results98 (by kernel_rfl) (fun rg hrg => ?_)
  refine qZ (rZ (wZ rg (o_box (v := eRat a) rfl rfl (kk := 3) rfl (by decide) (fun g1 => (asZ (.bool false) rfl (nZ (qZ ?_)))))))
  obtain ⟨r, hc, h⟩ := h
  rcases Bool.eq_false_or_eq_true r with hb | hb
  · replace h := h.1 hb
    obtain ⟨r1, hc1, h⟩ := h
    rcases Bool.eq_false_or_eq_true (decide (0 ≤ r1)) with hb1 | hb1
    · replace h := h.1 hb1
      obtain ⟨r2, hc2, h⟩ := h
      obtain ⟨r3, hc3, h⟩ := h
      refine Vc.drawn' mixed rg (usOf [(1, pc (.bool r)), (4, pc (.int .i64 r1)), (9, pc (eRat r2)), (10, pc (.int .i64 r3))]) (by kernel_rfl) ?_
      refine dL (E := ([(rg, 1)], [])) rfl rfl (by simp) (cfn) (o_loadBA (atL (k := 1) rfl) sz27 (by decide) ag27 rfl rfl (v := eRat a) rfl ?_)
      refine dC (vs := [eRat a]) rfl (vl' vr (vn)) (fun _ => ref02_Valid_ctr hc (fun _ hr => ⟨by rw [hr], rfl⟩)) rfl ?_
      refine dP rfl rfl (o_move (v := .bool r) rfl ?_)
      refine dGT rfl rfl hb ?_
      refine dL (E := ([(rg, 1)], [])) rfl rfl (by simp) (cfo (by kernel_rfl) (cfn)) (o_loadBA (atL (k := 1) rfl) sz27 (by decide) ag27 rfl rfl (v := eRat a) rfl ?_)
      refine dGT rfl rfl rfl ?_
      refine dC (vs := [eRat a]) rfl (vl' vr (vn)) (fun _ => ref02_Sign_ctr hc1 (fun _ hr => ⟨by rw [hr], rfl⟩)) rfl ?_
      refine dGT rfl rfl rfl ?_
      refine dP rfl rfl (o_geq rfl rfl (dP rfl rfl (o_pickT rfl rfl (v := .bool (decide (0 ≤ r1))) rfl (dP rfl rfl (o_move (v := .bool (decide (0 ≤ r1))) rfl ?_)))))
      refine dGT rfl rfl hb1 ?_
      refine dL (E := ([(rg, 1)], [])) rfl rfl (by simp) (cfo (by kernel_rfl) (cfo (by kernel_rfl) (cfn))) (o_loadBA (atL (k := 1) rfl) sz27 (by decide) ag27 rfl rfl (v := eRat a) rfl ?_)
      refine dGT rfl rfl rfl ?_
      refine dC (vs := [AV.int .i64 1]) rfl (vl' vr (vn)) (fun _ => ref02_Of_ctr hc2 (fun _ hr => ⟨by rw [hr], rfl⟩)) rfl ?_
      refine dGT rfl rfl rfl ?_
      refine dC (vs := [eRat a, eRat r2]) rfl (vl' vr (vl' vr (vn))) (fun _ => ref02_Cmp_ctr hc3 (fun _ hr => ⟨by rw [hr], rfl⟩)) rfl ?_
      refine dGT rfl rfl rfl ?_
      refine dP rfl rfl (o_leq rfl rfl (dP rfl rfl (o_pickT rfl rfl (v := .bool (decide (r3 ≤ 0))) rfl (dP rfl rfl (o_assign (v := .bool (decide (r3 ≤ 0))) rfl (dN ?_))))))
      refine Vc.ret' ?_
      refine res_tmp (v := .bool (decide (r3 ≤ 0))) rfl (res_nil ?_)
      show Gives _ (.bool (decide (r3 ≤ 0))) _
      exact gives_out hrg (VW.refl _) (hQ _ h)
    replace h := h.2 hb1
    refine Vc.drawn' mixed rg (usOf [(1, pc (.bool r)), (4, pc (.int .i64 r1))]) (by kernel_rfl) ?_
    refine dL (E := ([(rg, 1)], [])) rfl rfl (by simp) (cfn) (o_loadBA (atL (k := 1) rfl) sz27 (by decide) ag27 rfl rfl (v := eRat a) rfl ?_)
    refine dC (vs := [eRat a]) rfl (vl' vr (vn)) (fun _ => ref02_Valid_ctr hc (fun _ hr => ⟨by rw [hr], rfl⟩)) rfl ?_
    refine dP rfl rfl (o_move (v := .bool r) rfl ?_)
    refine dGT rfl rfl hb ?_
    refine dL (E := ([(rg, 1)], [])) rfl rfl (by simp) (cfo (by kernel_rfl) (cfn)) (o_loadBA (atL (k := 1) rfl) sz27 (by decide) ag27 rfl rfl (v := eRat a) rfl ?_)
    refine dGT rfl rfl rfl ?_
    refine dC (vs := [eRat a]) rfl (vl' vr (vn)) (fun _ => ref02_Sign_ctr hc1 (fun _ hr => ⟨by rw [hr], rfl⟩)) rfl ?_
    refine dGT rfl rfl rfl ?_
    refine dP rfl rfl (o_geq rfl rfl (dP rfl rfl (o_pickT rfl rfl (v := .bool (decide (0 ≤ r1))) rfl (dP rfl rfl (o_move (v := .bool (decide (0 ≤ r1))) rfl ?_)))))
    refine dGF rfl rfl hb1 rfl ?_
    refine dGF rfl rfl rfl rfl ?_
    refine dGF rfl rfl rfl rfl ?_
    refine dGF rfl rfl rfl rfl ?_
    refine dP rfl rfl (o_pickF rfl rfl (v := .bool false) rfl (dP rfl rfl (o_assign (v := .bool false) rfl (dN ?_))))
    refine Vc.ret' ?_
    refine res_tmp (v := .bool false) rfl (res_nil ?_)
    show Gives _ (.bool false) _
    exact gives_out hrg (VW.refl _) (hQ _ h)
  replace h := h.2 hb
  refine Vc.drawn' mixed rg (usOf [(1, pc (.bool r))]) (by kernel_rfl) ?_
  refine dL (E := ([(rg, 1)], [])) rfl rfl (by simp) (cfn) (o_loadBA (atL (k := 1) rfl) sz27 (by decide) ag27 rfl rfl (v := eRat a) rfl ?_)
  refine dC (vs := [eRat a]) rfl (vl' vr (vn)) (fun _ => ref02_Valid_ctr hc (fun _ hr => ⟨by rw [hr], rfl⟩)) rfl ?_
  refine dP rfl rfl (o_move (v := .bool r) rfl ?_)
  refine dGF rfl rfl hb rfl ?_
  refine dGF rfl rfl rfl rfl ?_
  refine dGF rfl rfl rfl rfl ?_
  refine dP rfl rfl (o_pickF rfl rfl (v := .bool false) rfl (dP rfl rfl (o_move (v := .bool false) rfl ?_)))
  refine dGF rfl rfl rfl rfl ?_
  refine dGF rfl rfl rfl rfl ?_
  refine dGF rfl rfl rfl rfl ?_
  refine dGF rfl rfl rfl rfl ?_
  refine dP rfl rfl (o_pickF rfl rfl (v := .bool false) rfl (dP rfl rfl (o_assign (v := .bool false) rfl (dN ?_))))
  refine Vc.ret' ?_
  refine res_tmp (v := .bool false) rfl (res_nil ?_)
  show Gives _ (.bool false) _
  exact gives_out hrg (VW.refl _) (hQ _ h)
end Go.Proofs.Ytonbnfgknijpoaa
