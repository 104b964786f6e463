/- Walks of functions. Conditions: none. -/
import Derived.Test.YtiamkdpljeemkaaWa
import Derived.Test.YtiamkdpljeemkaaGgTy
import Derived.Test.YtiamkdpljeemkaaK1
/- Walks of functions. Conditions: none. -/
namespace Go.Proofs.Ytiamkdpljeemkaa
open Go.Gg
set_option maxRecDepth 100000
theorem truth_check_ctr {f : GFormula} {Q : Option Int → Prop} {S : St} {R : AV → St → Prop} (h : truth_check_W f Q) (hQ : ∀ r1, Q r1 → R (eErr 73 r1) S) :
    Ctr Try.prog 129 [eFormula f] S R := by
  unfold truth_check_W at h
  refine enterT Try.func129 rfl Try.ntmps129 Try.results129 (by kernel_rfl) (fun rg hrg => ?_)
  refine qZ (rZ (wZ rg (o_box (v := eFormula f) rfl rfl (kk := 3) rfl (by decide) (fun g1 => (asZ .niface rfl (nZ (qZ (qZ (rZ (wZ rg (o_loadBA (atL (k := 1) rfl) sz24 (by decide) ag24 rfl rfl (v := eFormula f) rfl (wZ rg (o_call (us := [eFormula f]) rfl (vl' vr (vn)) (formula_Check_ctr h fun e h => (asZ (eErr 73 e) rfl (nZ (qZ (rZ (mvZ (eErr 73 e) rfl ?_)))))))))))))))))))
  refine wZ rg (o_isnon td32 (E := 73) rfl rfl rfl (nZ ?_))
  refine Vc.cond' rfl (fun hb => ?_) (fun hb => ?_)
  · replace h := h.1 hb
    refine qZ (rZ (mvZ (eErr 73 e) rfl (asZ (eErr 73 e) rfl (nZ ?_))))
    refine Vc.ret' ?_
    refine res_tmp (v := eErr 73 e) rfl (res_nil ?_)
    show Gives _ (eErr 73 e) _
    exact gives_out hrg (VW.refl _) (hQ _ h)
  replace h := h.2 hb
  refine Vc.skip' ?_
  refine qZ (qZ (rZ (wZ rg (o_faP td24 rfl rfl (by rw [sz3]; decide) rfl (wZ rg (o_loadB1 (atL (k := 1) rfl) sz3 ag3 rfl rfl (v := .int .i64 f.Vars) rfl (wZ rg (o_gtr rfl rfl (nZ ?_)))))))))
  refine Vc.cond' rfl (fun hb1 => ?_) (fun hb1 => ?_)
  · replace h := h.1 hb1
    refine qZ (rZ (wZ rg (o_iface (by rw [td73]; trivial) (v := .int .i64 4) rfl (asZ (.iface 73 (.int .i64 4)) rfl (nZ ?_)))))
    refine Vc.ret' ?_
    refine res_tmp (v := .iface 73 (.int .i64 4)) rfl (res_nil ?_)
    show Gives _ (.iface 73 (.int .i64 4)) _
    exact gives_out hrg (VW.refl _) (hQ _ h)
  replace h := h.2 hb1
  refine Vc.skip' ?_
  refine qZ (rZ (asZ .niface rfl (nZ ?_)))
  refine Vc.ret' ?_
  refine res_tmp (v := .niface) rfl (res_nil ?_)
  show Gives _ .niface _
  exact gives_out hrg (VW.refl _) (hQ _ h)
theorem truth_Table_ctr {f : GFormula} {Q : List Bool → Option Int → Prop} {S : St} {R : AV → St → Prop} (h : truth_Table_W f Q) (hQ : ∀ r1 r2, Q r1 r2 → R (.tuple [eL AV.bool r1, eErr 73 r2]) S) :
    Ctr Try.prog 84 [eFormula f] S R := by
  unfold truth_Table_W at h
  refine enterT Try.func84 rfl Try.ntmps84 Try.results84 (by kernel_rfl) (fun rg hrg => ?_)
  refine qZ (rZ (wZ rg (o_box (v := eFormula f) rfl rfl (kk := 3) rfl (by decide) (fun g1 => (asZ .nil rfl (asZ .niface rfl (nZ (qZ (qZ (rZ (wZ rg (o_loadBA (atL (k := 1) rfl) sz24 (by decide) ag24 rfl rfl (v := eFormula f) rfl (wZ rg (o_call (us := [eFormula f]) rfl (vl' vr (vn)) (truth_check_ctr h fun e h => (asZ (eErr 73 e) rfl (nZ (qZ (rZ (mvZ (eErr 73 e) rfl ?_))))))))))))))))))))
  refine wZ rg (o_isnon td32 (E := 73) rfl rfl rfl (nZ ?_))
  refine Vc.cond' rfl (fun hb => ?_) (fun hb => ?_)
  · replace h := h.1 hb
    refine qZ (rZ (mvZ (eErr 73 e) rfl (asZ .nil rfl (asZ (eErr 73 e) rfl (nZ ?_)))))
    refine Vc.ret' ?_
    refine res_tmp (v := .nil) rfl (res_tmp (v := eErr 73 e) rfl (res_nil ?_))
    show Gives _ (.tuple [.nil, eErr 73 e]) _
    exact gives_out hrg (VW.tupL (vl' (VW.nilL) (vl' vr (vn)))) (hQ _ _ h)
  replace h := h.2 hb
  refine Vc.skip' ?_
  refine qZ (rZ (wZ rg (o_faP td24 rfl rfl (by rw [sz3]; decide) rfl (wZ rg (o_loadB1 (atL (k := 1) rfl) sz3 ag3 rfl rfl (v := .int .i64 f.Vars) rfl (wZ rg (o_shlG rfl rfl h.1 ?_)))))))
  replace h := h.2
  refine wZ rg (o_make td110 bts4 ok4 (enc := AV.bool) (z' := false) zav4 (kk := 1) rfl rfl rfl h.1 (fun g2 => ?_))
  replace h := h.2
  refine asZ (.sl 1 rg 17 g2 0 (Int.toNat (1 * 2 ^ (Int.toNat f.Vars)))) rfl (nZ (qZ (qZ (rZ (mvZ (.sl 1 rg 17 g2 0 (Int.toNat (1 * 2 ^ (Int.toNat f.Vars)))) rfl (wZ rg (o_lenR td110 rfl (mvZ (.int .i64 0) rfl (nZ ?_)))))))))
  refine Vc.blk ?_
  obtain ⟨I, μ, h0, hI⟩ := h
  refine Vc.loop' (σ := (Int × (List Bool))) (fun y => I y) (fun y => μ y) (fun y => envOf [(1, .ptr rg 1 g1 0 0), (5, .sl 1 rg 17 g2 0 y.2.length), (19, .int .i64 ((Int.toNat (1 * 2 ^ (Int.toNat f.Vars))) : Int)), (20, .int .i64 y.1)]) (fun y => stL S rg [(1, .arr 3 [eFormula f], g1), (17, .arr 1 (List.map AV.bool y.2), g2)]) (0, (rep' (1 * 2 ^ (Int.toNat f.Vars)) false)) (canon (fc vr (fc (VW.slen (by first | rfl | omega | (simp only [go_sem] <;> omega))) (fc vr (fc vr (fn))))) (sc rfl (sc rfl (sn)))) h0 (fun y h => ?_)
  obtain ⟨x, out⟩ := y
  replace h := hI (x, out) h
  show Vc _ _ _ _ (envOf [(1, .ptr rg 1 g1 0 0), (5, .sl 1 rg 17 g2 0 out.length), (19, .int .i64 ((Int.toNat (1 * 2 ^ (Int.toNat f.Vars))) : Int)), (20, .int .i64 x)]) (stL S rg [(1, .arr 3 [eFormula f], g1), (17, .arr 1 (List.map AV.bool out), g2)])
  refine qZ (rZ (wZ rg (o_lss rfl rfl (nZ (qZ ?_)))))
  refine Vc.cond' rfl (fun hb1 => ?_) (fun hb1 => ?_)
  · replace h := h.1 hb1
    refine Vc.skip' ?_
    refine qZ ?_
    refine Vc.blk ?_
    refine qZ (rZ (mvZ (.int .i64 x) rfl (asZ (.int .i64 x) rfl (nZ (qZ (rZ (wZ rg (o_loadBA (atL (k := 1) rfl) sz24 (by decide) ag24 rfl rfl (v := eFormula f) rfl (mvZ (.int .i64 x) rfl (wZ rg (o_call (us := [eFormula f, AV.int .i64 x]) rfl (vl' vr (vl' vr (vn))) (formula_Value_ctr h fun r r1 h => (mvZ (.tuple [.bool r, eErr 73 r1]) rfl (wZ rg (o_extract (v := .bool r) rfl rfl rfl ?_)))))))))))))))
    refine wZ rg (o_extract (v := eErr 73 r1) rfl rfl rfl (asZ (.bool r) rfl (asZ (eErr 73 r1) rfl (nZ (qZ (qZ (rZ (mvZ (eErr 73 r1) rfl (wZ rg (o_isnon td32 (E := 73) rfl rfl rfl (nZ ?_)))))))))))
    refine Vc.cond' rfl (fun hb2 => ?_) (fun hb2 => ?_)
    · replace h := h.1 hb2
      refine qZ (rZ (mvZ (eErr 73 r1) rfl (asZ .nil rfl (asZ (eErr 73 r1) rfl (nZ ?_)))))
      refine Vc.ret' ?_
      refine res_tmp (v := .nil) rfl (res_tmp (v := eErr 73 r1) rfl (res_nil ?_))
      show Gives _ (.tuple [.nil, eErr 73 r1]) _
      exact gives_out hrg (VW.tupL (vl' (VW.nilL) (vl' vr (vn)))) (hQ _ _ h)
    replace h := h.2 hb2
    refine Vc.skip' ?_
    refine rZ ?_
    refine mvZ (.sl 1 rg 17 g2 0 out.length) rfl (mvZ (.int .i64 x) rfl (mvZ (.bool r) rfl (wZ rg (o_idxR0 td110 sz4 (by decide) rfl rfl h.1 ?_))))
    have hi := h.1
    replace h := h.2
    refine wZ rg (o_storeR1 (atL (k := 17) rfl) sz4 (by decide) (x' := r) (fun _ => rfl) rfl rfl (lt_of hi (by first | rfl | omega | (simp only [go_sem] <;> omega))) rfl rfl setL (nZ (rZ (wZ rg (o_addG rfl rfl h.1 ?_)))))
    replace h := h.2
    refine mvZ (.int .i64 (x + 1)) rfl (nZ ?_)
    exact ⟨((x + 1), (set' out x r)), (canon (fc vr (fc (VW.slen (by first | rfl | omega | (simp only [go_sem] <;> omega))) (fc vr (fc vr (fn))))) (sc rfl (sc rfl (sn)))), h⟩
  replace h := h.2 hb1
  refine Vc.exit' (exB_self ?_)
  refine qZ (rZ (mvZ (.sl 1 rg 17 g2 0 out.length) rfl (asZ (.sl 1 rg 17 g2 0 out.length) rfl (asZ .niface rfl (nZ ?_)))))
  refine Vc.ret' ?_
  refine res_tmp (v := .sl 1 rg 17 g2 0 out.length) rfl (res_tmp (v := .niface) rfl (res_nil ?_))
  show Gives _ (.tuple [.sl 1 rg 17 g2 0 out.length, .niface]) _
  refine gives_freeze (k := 17) (xs := List.map AV.bool out) rfl (v' := .tuple [eL AV.bool out, .niface]) (VW.tupL (vl' (frz_full rfl) (vl' vr (vn)))) ?_
  exact gives_out hrg (VW.tupL (vl' vr (vl' vr (vn)))) (hQ _ _ h)
end Go.Proofs.Ytiamkdpljeemkaa
