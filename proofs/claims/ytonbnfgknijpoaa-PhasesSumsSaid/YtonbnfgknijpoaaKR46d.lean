/- Walks of functions. Conditions: none. -/
import Derived.Test.YtonbnfgknijpoaaWR46
import Derived.Test.YtonbnfgknijpoaaGgTy
import Derived.Test.YtonbnfgknijpoaaGd
namespace Go.Proofs.Ytonbnfgknijpoaa
open Go.Gg
set_option maxRecDepth 100000
theorem ref46_Histories_ctr {events : Int} {phases : Int} {Q : List (List Int) → Prop} {S : St} {R : AV → St → Prop} (h : ref46_Histories_W events phases Q) (hQ : ∀ r1, Q r1 → R (eL (eL (AV.int .i64)) r1) S) :
    Ctr Try.prog 69 [AV.int .i64 events, AV.int .i64 phases] S R := by
  unfold ref46_Histories_W at h
  refine enterT Try.func69 rfl Try.ntmps69 Try.results69 (by kernel_rfl) (fun rg hrg => ?_)
  refine qZ (rZ (asZ .nil rfl (nZ (qZ (rZ (wZ rg (o_bslice td111 ok76 zav76 (es := [.nil]) rfl (kk := 1) rfl rfl rfl rfl rfl rfl (fun g1 => ?_))))))))
  refine Wl.wk (EWk.ow (k := 11) (o' := .arr 1 (List.map (eL (AV.int .i64)) [[]])) rfl (OW.all (owac (VWL.vwc (a := .nil) (b := eL (AV.int .i64) []) (vl' (VW.nilL) (vn))) (owan)))) ?_
  refine asZ (.sl 1 rg 11 g1 0 1) rfl (nZ (qZ (qZ (rZ (asZ (.int .i64 0) rfl (nZ ?_))))))
  refine Vc.blk ?_
  refine Vc.wk (canon_freeze (k := 11) (xs := List.map (eL (AV.int .i64)) [[]]) rfl (es := [(0, .int .i64 events), (1, .int .i64 phases), (5, eL (eL (AV.int .i64)) [[]]), (6, .int .i64 0)]) (fc vr (fc vr (fc (frz_full (by first | rfl | omega | (simp only [go_sem] <;> omega))) (fc vr (fn))))) (m := []) (sn)) ?_
  obtain ⟨I, μ, h0, hI⟩ := h
  refine Vc.loop' (σ := ((List (List Int)) × Int)) (fun y => I y) (fun y => μ y) (fun y => envOf [(0, .int .i64 events), (1, .int .i64 phases), (5, eL (eL (AV.int .i64)) y.1), (6, .int .i64 y.2)]) (fun y => stL S rg []) ([[]], 0) (canon (fc vr (fc vr (fc vr (fc vr (fn))))) (sn)) h0 (fun y h => ?_)
  obtain ⟨out, i⟩ := y
  replace h := hI (out, i) h
  show Vc _ _ _ _ (envOf [(0, .int .i64 events), (1, .int .i64 phases), (5, eL (eL (AV.int .i64)) out), (6, .int .i64 i)]) (stL S rg [])
  refine qZ (qZ (rZ (mvZ (.int .i64 i) rfl (mvZ (.int .i64 events) rfl (wZ rg (o_lss rfl rfl (nZ ?_)))))))
  refine Vc.cond' rfl (fun hb => ?_) (fun hb => ?_)
  · replace h := h.1 hb
    refine Vc.skip' ?_
    refine qZ ?_
    refine Vc.blk ?_
    refine qZ (rZ (asZ .nil rfl (nZ (qZ (qZ (rZ (asZ (.int .i64 0) rfl (nZ ?_))))))))
    refine Vc.blk ?_
    refine Vc.mat 7 40 1 rfl (by decide) (fun g2 => ?_)
    obtain ⟨I, μ, h0, hI⟩ := h
    refine Vc.loop' (σ := ((Int × (List (List Int))) × (Nat))) (fun y => I y.1) (fun y => μ y.1) (fun y => envOf [(0, .int .i64 events), (1, .int .i64 phases), (5, eL (eL (AV.int .i64)) out), (6, .int .i64 i), (7, .sl 1 rg 40 y.2 0 y.1.2.length), (8, .int .i64 y.1.1)]) (fun y => stL S rg [(40, .arr 1 (List.map (eL (AV.int .i64)) y.1.2), y.2)]) ((0, []), g2) (canon (fc vr (fc vr (fc vr (fc vr (fc (VW.slen (by first | rfl | omega | (simp only [go_sem] <;> omega))) (fc vr (fn))))))) (sc rfl (sn))) h0 (fun y h => ?_)
    obtain ⟨⟨k1, next2⟩, g3⟩ := y
    replace h := hI (k1, next2) h
    show Vc _ _ _ _ (envOf [(0, .int .i64 events), (1, .int .i64 phases), (5, eL (eL (AV.int .i64)) out), (6, .int .i64 i), (7, .sl 1 rg 40 g3 0 next2.length), (8, .int .i64 k1)]) (stL S rg [(40, .arr 1 (List.map (eL (AV.int .i64)) next2), g3)])
    refine qZ (qZ (rZ (mvZ (.int .i64 k1) rfl (mvZ (eL (eL (AV.int .i64)) out) rfl (wZ rg (o_len td111 rfl (wZ rg (o_lss rfl rfl (nZ ?_)))))))))
    refine Vc.cond' rfl (fun hb1 => ?_) (fun hb1 => ?_)
    · replace h := h.1 hb1
      refine Vc.skip' ?_
      refine qZ ?_
      refine Vc.blk ?_
      refine qZ (rZ (asZ (.int .i64 0) rfl (nZ ?_)))
      refine Vc.blk ?_
      obtain ⟨I, μ, h0, hI⟩ := h
      refine Vc.loop' (σ := ((Int × (List (List Int))) × (Nat))) (fun y => I y.1) (fun y => μ y.1) (fun y => envOf [(0, .int .i64 events), (1, .int .i64 phases), (5, eL (eL (AV.int .i64)) out), (6, .int .i64 i), (7, .sl 1 rg 40 y.2 0 y.1.2.length), (8, .int .i64 k1), (9, .int .i64 y.1.1)]) (fun y => stL S rg [(40, .arr 1 (List.map (eL (AV.int .i64)) y.1.2), y.2)]) ((0, next2), g3) (canon (fc vr (fc vr (fc vr (fc vr (fc vr (fc vr (fc vr (fn)))))))) (sc rfl (sn))) h0 (fun y h => ?_)
      obtain ⟨⟨j, next4⟩, g4⟩ := y
      replace h := hI (j, next4) h
      show Vc _ _ _ _ (envOf [(0, .int .i64 events), (1, .int .i64 phases), (5, eL (eL (AV.int .i64)) out), (6, .int .i64 i), (7, .sl 1 rg 40 g4 0 next4.length), (8, .int .i64 k1), (9, .int .i64 j)]) (stL S rg [(40, .arr 1 (List.map (eL (AV.int .i64)) next4), g4)])
      refine qZ (qZ (rZ (mvZ (.int .i64 j) rfl (mvZ (.int .i64 phases) rfl (wZ rg (o_leq rfl rfl (nZ ?_)))))))
      refine Vc.cond' rfl (fun hb2 => ?_) (fun hb2 => ?_)
      · replace h := h.1 hb2
        refine Vc.skip' ?_
        refine qZ ?_
        refine Vc.blk ?_
        refine qZ (rZ (asZ .nil rfl (nZ (qZ (rZ (mvZ .nil rfl (mvZ (eL (eL (AV.int .i64)) out) rfl (mvZ (.int .i64 k1) rfl (wZ rg (o_idxL td111 sz76 (by decide) (fun _ => rfl) rfl rfl h.1 ?_))))))))))
        replace h := h.2
        refine wZ rg (o_loadI1 sz76 ag76 rfl rfl (v := eL (AV.int .i64) (at' out k1)) rfl (wZ rg (o_appN td76 bts3 ok3 zav3 (xs := (at' out k1)) (enc := AV.int .i64) (rfl) (kk := 1) rfl rfl (fun _ => rfl) (fun _ => rfl) h.1 rfl (fun g5 => ?_))))
        replace h := h.2
        refine asZ (.sl 1 rg 33 g5 0 ((at' out k1).length)) rfl (nZ (rZ (mvZ (.sl 1 rg 40 g4 0 next4.length) rfl (mvZ (.sl 1 rg 33 g5 0 ((at' out k1).length)) rfl (mvZ (.int .i64 j) rfl (wZ rg (o_bslice td76 ok3 zav3 (es := [.int .i64 j]) rfl (kk := 1) rfl rfl rfl rfl rfl rfl (fun g6 => ?_))))))))
        refine wZ rg (o_appR td76 bts3 ok3 zav3 (es := (at' out k1)) (xs := [j]) (enc := AV.int .i64) (atL (k := 33) rfl) (by first | rfl | omega | (simp only [go_sem] <;> omega)) (view_rowE (atL (k := 37) rfl) (by first | rfl | omega | (simp only [go_sem] <;> omega))) (kk := 1) rfl rfl (fun _ => rfl) (fun _ => rfl) h.1 rfl (fun _ => setL) (fun g7 => ?_))
        replace h := h.2
        refine Wl.wk (canon_freeze (k := 33) (xs := List.map (AV.int .i64) ((at' out k1) ++ [j])) rfl (es := [(0, .int .i64 events), (1, .int .i64 phases), (5, eL (eL (AV.int .i64)) out), (6, .int .i64 i), (8, .int .i64 k1), (9, .int .i64 j), (34, .sl 1 rg 40 g4 0 next4.length), (38, eL (AV.int .i64) ((at' out k1) ++ [j]))]) (fc vr (fc vr (fc vr (fc vr (fc vr (fc vr (fc (frz_ne rfl) (fc (frz_full rfl) (fn))))))))) (m := [(40, .arr 1 (List.map (eL (AV.int .i64)) next4), g4)]) (sc rfl (sn))) ?_
        refine wZ rg (o_bslice td111 ok76 zav76 (es := [eL (AV.int .i64) ((at' out k1) ++ [j])]) rfl (kk := 1) rfl rfl rfl rfl rfl rfl (fun g9 => ?_))
        refine wZ rg (o_appR td111 bts76 ok76 zav76 (es := next4) (xs := [((at' out k1) ++ [j])]) (enc := eL (AV.int .i64)) (atL (k := 40) rfl) (by first | rfl | omega | (simp only [go_sem] <;> omega)) (view_rowE (atL (k := 39) rfl) (by first | rfl | omega | (simp only [go_sem] <;> omega))) (kk := 1) rfl rfl (fun _ => rfl) (fun _ => rfl) h.1 rfl (fun _ => setL) (fun g10 => ?_))
        replace h := h.2
        refine asZ (.sl 1 rg 40 g10 0 ((next4 ++ [((at' out k1) ++ [j])]).length)) rfl (nZ (rZ (mvZ (.int .i64 j) rfl (wZ rg (o_addG rfl rfl h.1 ?_)))))
        replace h := h.2
        refine asZ (.int .i64 (j + 1)) rfl (nZ ?_)
        exact ⟨(((j + 1), (next4 ++ [((at' out k1) ++ [j])])), g10), (canon (fc vr (fc vr (fc vr (fc vr (fc vr (fc vr (fc vr (fn)))))))) (sc rfl (sn))), h⟩
      replace h := h.2 hb2
      refine Vc.exit' (exB_self ?_)
      refine rZ ?_
      refine mvZ (.int .i64 k1) rfl (wZ rg (o_addG rfl rfl h.1 ?_))
      replace h := h.2
      refine asZ (.int .i64 (k1 + 1)) rfl (nZ ?_)
      exact ⟨(((k1 + 1), next4), g4), (canon (fc vr (fc vr (fc vr (fc vr (fc vr (fc vr (fn))))))) (sc rfl (sn))), h⟩
    replace h := h.2 hb1
    refine Vc.exit' (exB_self ?_)
    refine rZ ?_
    refine mvZ (.sl 1 rg 40 g3 0 next2.length) rfl (asZ (.sl 1 rg 40 g3 0 next2.length) rfl (nZ (rZ (mvZ (.int .i64 i) rfl (wZ rg (o_addG rfl rfl h.1 ?_))))))
    replace h := h.2
    refine asZ (.int .i64 (i + 1)) rfl (nZ ?_)
    exact ⟨(next2, (i + 1)), (EWk.trans (canon_freeze (k := 40) (xs := List.map (eL (AV.int .i64)) next2) rfl (es := [(0, .int .i64 events), (1, .int .i64 phases), (5, eL (eL (AV.int .i64)) next2), (6, .int .i64 (i + 1))]) (fc vr (fc vr (fc (frz_full rfl) (fc vr (fn))))) (m := []) (sn)) (canon (fc vr (fc vr (fc vr (fc vr (fn))))) (sn))), h⟩
  replace h := h.2 hb
  refine Vc.exit' (exB_self ?_)
  refine qZ (rZ (mvZ (eL (eL (AV.int .i64)) out) rfl (asZ (eL (eL (AV.int .i64)) out) rfl (nZ ?_))))
  refine Vc.ret' ?_
  refine res_tmp (v := eL (eL (AV.int .i64)) out) rfl (res_nil ?_)
  show Gives _ (eL (eL (AV.int .i64)) out) _
  exact gives_out hrg (VW.refl _) (hQ _ h)
end Go.Proofs.Ytonbnfgknijpoaa
