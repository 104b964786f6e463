/- Walks of functions. Conditions: none. -/
import Derived.Test.YtiamkdpljeemkaaWa
import Derived.Test.YtiamkdpljeemkaaGgTy
import Derived.Test.YtiamkdpljeemkaaGd
import Derived.Test.YtiamkdpljeemkaaK2
/- Walks of functions. Conditions: none. -/
namespace Go.Proofs.Ytiamkdpljeemkaa
open Go.Gg
set_option maxRecDepth 100000
theorem order_Natural_ctr {vars : Int} {Q : List Int → Option Int → Prop} {S : St} {R : AV → St → Prop} (h : order_Natural_W vars Q) (hQ : ∀ r1 r2, Q r1 r2 → R (.tuple [eL (AV.int .i64) r1, eErr 73 r2]) S) :
    Ctr Try.prog 50 [AV.int .i64 vars] S R := by
  unfold order_Natural_W at h
  refine enterT Try.func50 rfl Try.ntmps50 Try.results50 (by kernel_rfl) (fun rg hrg => ?_)
  refine qZ (rZ (asZ .nil rfl (asZ .niface rfl (nZ (qZ ?_)))))
  obtain ⟨J, h, hJ⟩ := h
  refine Vc.join' (σ := (Bool)) (fun y => J y) (fun y => envOf [(0, .int .i64 vars), (9, .bool y)]) (fun y => stL S rg []) (fun x h => ?_) ?_
  · replace h := hJ x h
    show Vc _ _ _ _ (envOf [(0, .int .i64 vars), (9, .bool x)]) (stL S rg [])
    refine Vc.cond' rfl (fun hb => ?_) (fun hb => ?_)
    · replace h := h.1 hb
      refine qZ (rZ (wZ rg (o_iface (by rw [td73]; trivial) (v := .int .i64 3) rfl (asZ .nil rfl (asZ (.iface 73 (.int .i64 3)) rfl (nZ ?_))))))
      refine Vc.ret' ?_
      refine res_tmp (v := .nil) rfl (res_tmp (v := .iface 73 (.int .i64 3)) rfl (res_nil ?_))
      show Gives _ (.tuple [.nil, .iface 73 (.int .i64 3)]) _
      exact gives_out hrg (VW.tupL (vl' (VW.nilL) (vl' vr (vn)))) (hQ _ _ h)
    replace h := h.2 hb
    refine Vc.skip' ?_
    refine qZ (rZ (mvZ (.int .i64 vars) rfl (wZ rg (o_call (us := [AV.int .i64 vars]) rfl (vl' vr (vn)) (order_natural_ctrO rg 12 h fun r g1 h => ?_)))))
    refine Wl.eqS setL ?_
    refine asZ (.sl 1 rg 12 g1 0 r.length) rfl (asZ .niface rfl (nZ ?_))
    refine Vc.ret' ?_
    refine res_tmp (v := .sl 1 rg 12 g1 0 r.length) rfl (res_tmp (v := .niface) rfl (res_nil ?_))
    show Gives _ (.tuple [.sl 1 rg 12 g1 0 r.length, .niface]) _
    refine gives_freeze (k := 12) (xs := List.map (AV.int .i64) r) rfl (v' := .tuple [eL (AV.int .i64) r, .niface]) (VW.tupL (vl' (frz_full rfl) (vl' vr (vn)))) ?_
    exact gives_out hrg (VW.tupL (vl' vr (vl' vr (vn)))) (hQ _ _ h)
  refine rZ ?_
  refine mvZ (.int .i64 vars) rfl (wZ rg (o_lss rfl rfl (mvZ (.bool (decide (vars < 0))) rfl ?_)))
  refine Wl.guard rfl rfl (fun hb1 => ?_) (fun hb1 => ?_)
  · replace h := h.2 hb1
    refine mvZ (.int .i64 vars) rfl ?_
    refine Wl.guardT rfl rfl hb1 ?_
    refine wZ rg (o_gtr rfl rfl (wZ rg (o_pickF rfl hb1 (v := .bool (decide (24 < vars))) rfl (nZ ?_))))
    exact ⟨(decide (24 < vars)), (canon (fc vr (fc vr (fn))) (sn)), h⟩
  replace h := h.1 hb1
  refine Wl.guardF rfl rfl hb1 rfl ?_
  refine wZ rg (o_pickT rfl hb1 (v := .bool true) rfl (nZ ?_))
  exact ⟨true, (canon (fc vr (fc vr (fn))) (sn)), h⟩
end Go.Proofs.Ytiamkdpljeemkaa
/- Walks of functions. Conditions: none. -/
namespace Go.Proofs.Ytiamkdpljeemkaa
open Go.Gg
set_option maxRecDepth 100000
theorem ref14_Natural_ctr {vars : Int} {Q : List Int → Prop} {S : St} {R : AV → St → Prop} (h : ref14_Natural_W vars Q) (hQ : ∀ r1, Q r1 → R (eL (AV.int .i64) r1) S) :
    Ctr Try.prog 54 [AV.int .i64 vars] S R := by
  unfold ref14_Natural_W at h
  refine enterT Try.func54 rfl Try.ntmps54 Try.results54 (by kernel_rfl) (fun rg hrg => ?_)
  refine qZ (rZ (asZ .nil rfl (nZ (qZ (rZ (asZ .nil rfl (nZ (qZ (qZ (rZ (asZ (.int .i64 0) rfl (nZ ?_))))))))))))
  refine Vc.blk ?_
  refine Vc.mat 3 13 1 rfl (by decide) (fun g1 => ?_)
  obtain ⟨I, μ, h0, hI⟩ := h
  refine Vc.loop' (σ := ((Int × (List Int)) × (Nat))) (fun y => I y.1) (fun y => μ y.1) (fun y => envOf [(0, .int .i64 vars), (3, .sl 1 rg 13 y.2 0 y.1.2.length), (4, .int .i64 y.1.1)]) (fun y => stL S rg [(13, .arr 1 (List.map (AV.int .i64) y.1.2), y.2)]) ((0, []), g1) (canon (fc vr (fc (VW.slen (by first | rfl | omega | (simp only [go_sem] <;> omega))) (fc vr (fn)))) (sc rfl (sn))) h0 (fun y h => ?_)
  obtain ⟨⟨i, out⟩, g2⟩ := y
  replace h := hI (i, out) h
  show Vc _ _ _ _ (envOf [(0, .int .i64 vars), (3, .sl 1 rg 13 g2 0 out.length), (4, .int .i64 i)]) (stL S rg [(13, .arr 1 (List.map (AV.int .i64) out), g2)])
  refine qZ (qZ (rZ (mvZ (.int .i64 i) rfl (mvZ (.int .i64 vars) rfl (wZ rg (o_lss rfl rfl (nZ ?_)))))))
  refine Vc.cond' rfl (fun hb => ?_) (fun hb => ?_)
  · replace h := h.1 hb
    refine Vc.skip' ?_
    refine qZ ?_
    refine Vc.blk ?_
    refine rZ ?_
    refine mvZ (.sl 1 rg 13 g2 0 out.length) rfl (mvZ (.int .i64 i) rfl (wZ rg (o_bslice td25 ok3 zav3 (es := [.int .i64 i]) rfl (kk := 1) rfl rfl rfl rfl rfl rfl (fun g3 => ?_))))
    refine wZ rg (o_appR td25 bts3 ok3 zav3 (es := out) (xs := [i]) (enc := AV.int .i64) (atL (k := 13) rfl) (by first | rfl | omega | (simp only [go_sem] <;> omega)) (view_rowE (atL (k := 12) rfl) (by first | rfl | omega | (simp only [go_sem] <;> omega))) (kk := 1) rfl rfl (fun _ => rfl) (fun _ => rfl) h.1 rfl (fun _ => setL) (fun g4 => ?_))
    replace h := h.2
    refine asZ (.sl 1 rg 13 g4 0 ((out ++ [i]).length)) rfl (nZ (rZ (mvZ (.int .i64 i) rfl (wZ rg (o_addG rfl rfl h.1 ?_)))))
    replace h := h.2
    refine asZ (.int .i64 (i + 1)) rfl (nZ ?_)
    exact ⟨(((i + 1), (out ++ [i])), g4), (canon (fc vr (fc vr (fc vr (fn)))) (sc rfl (sn))), h⟩
  replace h := h.2 hb
  refine Vc.exit' (exB_self ?_)
  refine qZ (rZ (mvZ (.sl 1 rg 13 g2 0 out.length) rfl (asZ (.sl 1 rg 13 g2 0 out.length) rfl (nZ ?_))))
  refine Vc.ret' ?_
  refine res_tmp (v := .sl 1 rg 13 g2 0 out.length) rfl (res_nil ?_)
  show Gives _ (.sl 1 rg 13 g2 0 out.length) _
  refine gives_freeze (k := 13) (xs := List.map (AV.int .i64) out) rfl (v' := eL (AV.int .i64) out) (frz_full rfl) ?_
  exact gives_out hrg (VW.refl _) (hQ _ h)
end Go.Proofs.Ytiamkdpljeemkaa
