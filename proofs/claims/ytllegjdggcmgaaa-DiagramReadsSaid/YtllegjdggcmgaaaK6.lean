/- Walks of functions. Conditions: none. -/
import Derived.Test.YtllegjdggcmgaaaWa
import Derived.Test.YtllegjdggcmgaaaGgTy
/- Walks of functions. Conditions: none. -/
namespace Go.Proofs.Ytllegjdggcmgaaa
open Go.Gg
set_option maxRecDepth 100000
theorem slices_Clone___int_int_ctr {s : List Int} {Q : List Int → Prop} {S : St} {R : AV → St → Prop} (h : slices_Clone___int_int_W s Q) (hQ : ∀ r1, Q r1 → R (eL (AV.int .i64) r1) S) :
    Ctr Try.prog 138 [eL (AV.int .i64) s] S R := by
  unfold slices_Clone___int_int_W at h
  refine enterT Try.func138 rfl Try.ntmps138 Try.results138 (by kernel_rfl) (fun rg hrg => ?_)
  refine qZ (rZ (asZ .nil rfl (nZ (qZ (qZ (rZ (mvZ (eL (AV.int .i64) s) rfl ?_)))))))
  refine Wl.isnil td22 rfl rfl (fun isnil hn => ?_)
  replace h := h isnil hn
  refine nZ ?_
  refine Vc.cond' rfl (fun hb => ?_) (fun hb => ?_)
  · replace h := h.1 hb
    refine qZ (rZ (asZ .nil rfl (nZ ?_)))
    refine Vc.ret' ?_
    refine res_tmp (v := .nil) rfl (res_nil ?_)
    show Gives _ .nil _
    exact gives_out hrg (VW.nilL) (hQ _ h)
  replace h := h.2 hb
  refine Vc.skip' ?_
  refine qZ (rZ (wZ rg (o_bslice td22 ok3 zav3 (es := []) rfl (kk := 1) rfl rfl rfl rfl rfl rfl (fun g1 => (mvZ (eL (AV.int .i64) s) rfl (wZ rg (o_appR td22 bts3 ok3 zav3 (es := []) (xs := s) (enc := AV.int .i64) (atL (k := 5) rfl) (by first | rfl | omega | (simp only [go_sem] <;> omega)) (rfl) (kk := 1) rfl rfl (fun _ => rfl) (fun _ => rfl) h.1 rfl (fun _ => setL) (fun g2 => ?_))))))))
  replace h := h.2
  refine asZ (.sl 1 rg 5 g2 0 (([] ++ s).length)) rfl (nZ ?_)
  refine Vc.ret' ?_
  refine res_tmp (v := .sl 1 rg 5 g2 0 (([] ++ s).length)) rfl (res_nil ?_)
  show Gives _ (.sl 1 rg 5 g2 0 (([] ++ s).length)) _
  refine gives_freeze (k := 5) (xs := List.map (AV.int .i64) ([] ++ s)) rfl (v' := eL (AV.int .i64) ([] ++ s)) (frz_full rfl) ?_
  exact gives_out hrg (VW.refl _) (hQ _ h)
theorem slices_Index___int_int_ctr {s : List Int} {v : Int} {Q : Int → Prop} {S : St} {R : AV → St → Prop} (h : slices_Index___int_int_W s v Q) (hQ : ∀ r1, Q r1 → R (AV.int .i64 r1) S) :
    Ctr Try.prog 149 [eL (AV.int .i64) s, AV.int .i64 v] S R := by
  unfold slices_Index___int_int_W at h
  refine enterT Try.func149 rfl Try.ntmps149 Try.results149 (by kernel_rfl) (fun rg hrg => ?_)
  refine qZ (rZ (asZ (.int .i64 0) rfl (nZ (qZ (qZ (rZ (mvZ (eL (AV.int .i64) s) rfl (wZ rg (o_len td22 rfl (mvZ (.int .i64 0) rfl (nZ ?_)))))))))))
  refine Vc.blk ?_
  obtain ⟨I, μ, h0, hI⟩ := h
  refine Vc.loop' (σ := (Int)) (fun y => I y) (fun y => μ y) (fun y => envOf [(0, eL (AV.int .i64) s), (1, .int .i64 v), (7, .int .i64 (s.length : Int)), (8, .int .i64 y)]) (fun y => stL S rg []) 0 (canon (fc vr (fc vr (fc vr (fc vr (fn))))) (sn)) h0 (fun x h => ?_)
  replace h := hI x h
  show Vc _ _ _ _ (envOf [(0, eL (AV.int .i64) s), (1, .int .i64 v), (7, .int .i64 (s.length : Int)), (8, .int .i64 x)]) (stL S rg [])
  refine qZ (rZ (wZ rg (o_lss rfl rfl (nZ (qZ ?_)))))
  refine Vc.cond' rfl (fun hb => ?_) (fun hb => ?_)
  · replace h := h.1 hb
    refine Vc.skip' ?_
    refine qZ ?_
    refine Vc.blk ?_
    refine qZ (rZ (mvZ (.int .i64 x) rfl (asZ (.int .i64 x) rfl (nZ (qZ (rZ (mvZ (.int .i64 v) rfl (mvZ (eL (AV.int .i64) s) rfl (mvZ (.int .i64 x) rfl (wZ rg (o_idxL td22 sz3 (by decide) (fun _ => rfl) rfl rfl h.1 ?_)))))))))))
    replace h := h.2
    refine wZ rg (o_loadI1 sz3 ag3 rfl rfl (v := .int .i64 (at' s x)) rfl (wZ rg (o_eql rfl rfl (nZ ?_))))
    refine Vc.cond' rfl (fun hb1 => ?_) (fun hb1 => ?_)
    · replace h := h.1 hb1
      refine qZ (rZ (mvZ (.int .i64 x) rfl (asZ (.int .i64 x) rfl (nZ ?_))))
      refine Vc.ret' ?_
      refine res_tmp (v := .int .i64 x) rfl (res_nil ?_)
      show Gives _ (.int .i64 x) _
      exact gives_out hrg (VW.refl _) (hQ _ h)
    replace h := h.2 hb1
    refine Vc.skip' ?_
    refine rZ ?_
    refine wZ rg (o_addG rfl rfl h.1 ?_)
    replace h := h.2
    refine mvZ (.int .i64 (x + 1)) rfl (nZ ?_)
    exact ⟨(x + 1), (canon (fc vr (fc vr (fc vr (fc vr (fn))))) (sn)), h⟩
  replace h := h.2 hb
  refine Vc.exit' (exB_self ?_)
  refine qZ (rZ (asZ (.int .i64 (-1)) rfl (nZ ?_)))
  refine Vc.ret' ?_
  refine res_tmp (v := .int .i64 (-1)) rfl (res_nil ?_)
  show Gives _ (.int .i64 (-1)) _
  exact gives_out hrg (VW.refl _) (hQ _ h)
end Go.Proofs.Ytllegjdggcmgaaa
