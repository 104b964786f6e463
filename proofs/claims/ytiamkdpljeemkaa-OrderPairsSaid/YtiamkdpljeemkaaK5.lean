/- Walks of functions. Conditions: none. -/
import Derived.Test.YtiamkdpljeemkaaWa
import Derived.Test.YtiamkdpljeemkaaGgTy
/- Walks of functions. Conditions: none. -/
namespace Go.Proofs.Ytiamkdpljeemkaa
open Go.Gg
set_option maxRecDepth 100000
theorem ref14_Place_ctr {l : List Int} {n : Int} {Q : Int → Prop} {S : St} {R : AV → St → Prop} (h : ref14_Place_W l n Q) (hQ : ∀ r1, Q r1 → R (AV.int .i64 r1) S) :
    Ctr Try.prog 103 [eL (AV.int .i64) l, AV.int .i64 n] S R := by
  unfold ref14_Place_W at h
  refine enterT Try.func103 rfl Try.ntmps103 Try.results103 (by kernel_rfl) (fun rg hrg => ?_)
  refine qZ (rZ (asZ (.int .i64 0) rfl (nZ (qZ (qZ (rZ (asZ (.int .i64 0) rfl (nZ ?_))))))))
  refine Vc.blk ?_
  obtain ⟨I, μ, h0, hI⟩ := h
  refine Vc.loop' (σ := (Int)) (fun y => I y) (fun y => μ y) (fun y => envOf [(0, eL (AV.int .i64) l), (1, .int .i64 n), (5, .int .i64 y)]) (fun y => stL S rg []) 0 (canon (fc vr (fc vr (fc vr (fn)))) (sn)) h0 (fun i h => ?_)
  replace h := hI i h
  show Vc _ _ _ _ (envOf [(0, eL (AV.int .i64) l), (1, .int .i64 n), (5, .int .i64 i)]) (stL S rg [])
  refine qZ (qZ (rZ (mvZ (.int .i64 i) rfl (mvZ (eL (AV.int .i64) l) rfl (wZ rg (o_len td25 rfl (wZ rg (o_lss rfl rfl (nZ ?_)))))))))
  refine Vc.cond' rfl (fun hb => ?_) (fun hb => ?_)
  · replace h := h.1 hb
    refine Vc.skip' ?_
    refine qZ ?_
    refine Vc.blk ?_
    refine qZ (rZ (mvZ (eL (AV.int .i64) l) rfl (mvZ (.int .i64 i) rfl (wZ rg (o_idxL td25 sz3 (by decide) (fun _ => rfl) rfl rfl h.1 ?_)))))
    replace h := h.2
    refine wZ rg (o_loadI1 sz3 ag3 rfl rfl (v := .int .i64 (at' l i)) rfl (mvZ (.int .i64 n) rfl (wZ rg (o_eql rfl rfl (nZ ?_)))))
    refine Vc.cond' rfl (fun hb1 => ?_) (fun hb1 => ?_)
    · replace h := h.1 hb1
      refine qZ (rZ (mvZ (.int .i64 i) rfl (asZ (.int .i64 i) rfl (nZ ?_))))
      refine Vc.ret' ?_
      refine res_tmp (v := .int .i64 i) rfl (res_nil ?_)
      show Gives _ (.int .i64 i) _
      exact gives_out hrg (VW.refl _) (hQ _ h)
    replace h := h.2 hb1
    refine Vc.skip' ?_
    refine rZ ?_
    refine mvZ (.int .i64 i) rfl (wZ rg (o_addG rfl rfl h.1 ?_))
    replace h := h.2
    refine asZ (.int .i64 (i + 1)) rfl (nZ ?_)
    exact ⟨(i + 1), (canon (fc vr (fc vr (fc vr (fn)))) (sn)), h⟩
  replace h := h.2 hb
  refine Vc.exit' (exB_self ?_)
  refine qZ (rZ (asZ (.int .i64 (-1)) rfl (nZ ?_)))
  refine Vc.ret' ?_
  refine res_tmp (v := .int .i64 (-1)) rfl (res_nil ?_)
  show Gives _ (.int .i64 (-1)) _
  exact gives_out hrg (VW.refl _) (hQ _ h)
end Go.Proofs.Ytiamkdpljeemkaa
/- Walks of functions. Conditions: none. -/
namespace Go.Proofs.Ytiamkdpljeemkaa
open Go.Gg
set_option maxRecDepth 100000
theorem ref14_Positions_ctr {o : List Int} {Q : List Int → Prop} {S : St} {R : AV → St → Prop} (h : ref14_Positions_W o Q) (hQ : ∀ r1, Q r1 → R (eL (AV.int .i64) r1) S) :
    Ctr Try.prog 58 [eL (AV.int .i64) o] S R := by
  unfold ref14_Positions_W at h
  refine enterT Try.func58 rfl Try.ntmps58 Try.results58 (by kernel_rfl) (fun rg hrg => ?_)
  refine qZ (rZ (asZ .nil rfl (nZ (qZ (rZ (asZ .nil rfl (nZ (qZ (qZ (rZ (asZ (.int .i64 0) rfl (nZ ?_))))))))))))
  refine Vc.blk ?_
  refine Vc.mat 3 16 1 rfl (by decide) (fun g1 => ?_)
  obtain ⟨I, μ, h0, hI⟩ := h
  refine Vc.loop' (σ := ((Int × (List Int)) × (Nat))) (fun y => I y.1) (fun y => μ y.1) (fun y => envOf [(0, eL (AV.int .i64) o), (3, .sl 1 rg 16 y.2 0 y.1.2.length), (4, .int .i64 y.1.1)]) (fun y => stL S rg [(16, .arr 1 (List.map (AV.int .i64) y.1.2), y.2)]) ((0, []), g1) (canon (fc vr (fc (VW.slen (by first | rfl | omega | (simp only [go_sem] <;> omega))) (fc vr (fn)))) (sc rfl (sn))) h0 (fun y h => ?_)
  obtain ⟨⟨i, out⟩, g2⟩ := y
  replace h := hI (i, out) h
  show Vc _ _ _ _ (envOf [(0, eL (AV.int .i64) o), (3, .sl 1 rg 16 g2 0 out.length), (4, .int .i64 i)]) (stL S rg [(16, .arr 1 (List.map (AV.int .i64) out), g2)])
  refine qZ (qZ (rZ (mvZ (.int .i64 i) rfl (mvZ (eL (AV.int .i64) o) rfl (wZ rg (o_len td25 rfl (wZ rg (o_lss rfl rfl (nZ ?_)))))))))
  refine Vc.cond' rfl (fun hb => ?_) (fun hb => ?_)
  · replace h := h.1 hb
    refine Vc.skip' ?_
    refine qZ ?_
    refine Vc.blk ?_
    refine rZ ?_
    refine mvZ (.sl 1 rg 16 g2 0 out.length) rfl (mvZ (eL (AV.int .i64) o) rfl (mvZ (.int .i64 i) rfl (wZ rg (o_call (us := [eL (AV.int .i64) o, AV.int .i64 i]) rfl (vl' vr (vl' vr (vn))) (ref14_Place_ctr h fun r h => (wZ rg (o_bslice td25 ok3 zav3 (es := [.int .i64 r]) rfl (kk := 1) rfl rfl rfl rfl rfl rfl (fun g3 => ?_))))))))
    refine wZ rg (o_appR td25 bts3 ok3 zav3 (es := out) (xs := [r]) (enc := AV.int .i64) (atL (k := 16) rfl) (by first | rfl | omega | (simp only [go_sem] <;> omega)) (view_rowE (atL (k := 15) rfl) (by first | rfl | omega | (simp only [go_sem] <;> omega))) (kk := 1) rfl rfl (fun _ => rfl) (fun _ => rfl) h.1 rfl (fun _ => setL) (fun g4 => ?_))
    replace h := h.2
    refine asZ (.sl 1 rg 16 g4 0 ((out ++ [r]).length)) rfl (nZ (rZ (mvZ (.int .i64 i) rfl (wZ rg (o_addG rfl rfl h.1 ?_)))))
    replace h := h.2
    refine asZ (.int .i64 (i + 1)) rfl (nZ ?_)
    exact ⟨(((i + 1), (out ++ [r])), g4), (canon (fc vr (fc vr (fc vr (fn)))) (sc rfl (sn))), h⟩
  replace h := h.2 hb
  refine Vc.exit' (exB_self ?_)
  refine qZ (rZ (mvZ (.sl 1 rg 16 g2 0 out.length) rfl (asZ (.sl 1 rg 16 g2 0 out.length) rfl (nZ ?_))))
  refine Vc.ret' ?_
  refine res_tmp (v := .sl 1 rg 16 g2 0 out.length) rfl (res_nil ?_)
  show Gives _ (.sl 1 rg 16 g2 0 out.length) _
  refine gives_freeze (k := 16) (xs := List.map (AV.int .i64) out) rfl (v' := eL (AV.int .i64) out) (frz_full rfl) ?_
  exact gives_out hrg (VW.refl _) (hQ _ h)
theorem ref14_Distance_ctr {a : List Int} {b : List Int} {Q : Int → Prop} {S : St} {R : AV → St → Prop} (h : ref14_Distance_W a b Q) (hQ : ∀ r1, Q r1 → R (AV.int .i64 r1) S) :
    Ctr Try.prog 59 [eL (AV.int .i64) a, eL (AV.int .i64) b] S R := by
  unfold ref14_Distance_W at h
  refine enterT Try.func59 rfl Try.ntmps59 Try.results59 (by kernel_rfl) (fun rg hrg => ?_)
  refine qZ (rZ (asZ (.int .i64 0) rfl (nZ (qZ (rZ (asZ (.int .i64 0) rfl (nZ (qZ (qZ (rZ (asZ (.int .i64 0) rfl (nZ ?_))))))))))))
  refine Vc.blk ?_
  obtain ⟨I, μ, h0, hI⟩ := h
  refine Vc.loop' (σ := (Int × Int)) (fun y => I y) (fun y => μ y) (fun y => envOf [(0, eL (AV.int .i64) a), (1, eL (AV.int .i64) b), (5, .int .i64 y.1), (6, .int .i64 y.2)]) (fun y => stL S rg []) (0, 0) (canon (fc vr (fc vr (fc vr (fc vr (fn))))) (sn)) h0 (fun y h => ?_)
  obtain ⟨n, i⟩ := y
  replace h := hI (n, i) h
  show Vc _ _ _ _ (envOf [(0, eL (AV.int .i64) a), (1, eL (AV.int .i64) b), (5, .int .i64 n), (6, .int .i64 i)]) (stL S rg [])
  refine qZ (qZ (rZ (mvZ (.int .i64 i) rfl (mvZ (eL (AV.int .i64) a) rfl (wZ rg (o_len td25 rfl (wZ rg (o_lss rfl rfl (nZ ?_)))))))))
  refine Vc.cond' rfl (fun hb => ?_) (fun hb => ?_)
  · replace h := h.1 hb
    refine Vc.skip' ?_
    refine qZ ?_
    refine Vc.blk ?_
    refine qZ (rZ (asZ (.int .i64 0) rfl (nZ ?_)))
    refine Vc.blk ?_
    obtain ⟨I, μ, h0, hI⟩ := h
    refine Vc.loop' (σ := (Int × Int)) (fun y => I y) (fun y => μ y) (fun y => envOf [(0, eL (AV.int .i64) a), (1, eL (AV.int .i64) b), (5, .int .i64 y.1), (6, .int .i64 i), (7, .int .i64 y.2)]) (fun y => stL S rg []) (n, 0) (canon (fc vr (fc vr (fc vr (fc vr (fc vr (fn)))))) (sn)) h0 (fun y h => ?_)
    obtain ⟨n1, k1⟩ := y
    replace h := hI (n1, k1) h
    show Vc _ _ _ _ (envOf [(0, eL (AV.int .i64) a), (1, eL (AV.int .i64) b), (5, .int .i64 n1), (6, .int .i64 i), (7, .int .i64 k1)]) (stL S rg [])
    refine qZ (qZ (rZ (mvZ (.int .i64 k1) rfl (mvZ (.int .i64 i) rfl (wZ rg (o_lss rfl rfl (nZ ?_)))))))
    refine Vc.cond' rfl (fun hb1 => ?_) (fun hb1 => ?_)
    · replace h := h.1 hb1
      refine Vc.skip' ?_
      refine qZ ?_
      refine Vc.blk ?_
      refine qZ ?_
      have hg := h.1
      replace h := h.2
      obtain ⟨r, hc, h⟩ := h
      have hg1 := h.1
      replace h := h.2
      obtain ⟨r1, hc1, h⟩ := h
      refine Vc.drawn' mixed rg (usOf [(5, pc (.int .i64 r)), (11, pc (.int .i64 r1))]) (by kernel_rfl) ?_
      refine dP rfl rfl (o_move (v := eL (AV.int .i64) b) rfl (dP rfl rfl (o_move (v := eL (AV.int .i64) a) rfl (dP rfl rfl (o_move (v := .int .i64 k1) rfl (dP rfl rfl (o_idxL td25 sz3 (by decide) (fun _ => rfl) rfl rfl hg (dP rfl rfl (o_loadI1 sz3 ag3 rfl rfl (v := .int .i64 (at' a k1)) rfl ?_)))))))))
      refine dC (vs := [eL (AV.int .i64) b, AV.int .i64 (at' a k1)]) rfl (vl' vr (vl' vr (vn))) (fun _ => ref14_Place_ctr hc (fun _ hr => ⟨by rw [hr], rfl⟩)) rfl ?_
      refine dP rfl rfl (o_move (v := eL (AV.int .i64) b) rfl (dP rfl rfl (o_move (v := eL (AV.int .i64) a) rfl (dP rfl rfl (o_move (v := .int .i64 i) rfl (dP rfl rfl (o_idxL td25 sz3 (by decide) (fun _ => rfl) rfl rfl hg1 (dP rfl rfl (o_loadI1 sz3 ag3 rfl rfl (v := .int .i64 (at' a i)) rfl ?_)))))))))
      refine dC (vs := [eL (AV.int .i64) b, AV.int .i64 (at' a i)]) rfl (vl' vr (vl' vr (vn))) (fun _ => ref14_Place_ctr hc1 (fun _ hr => ⟨by rw [hr], rfl⟩)) rfl ?_
      refine dP rfl rfl (o_gtr rfl rfl (dN ?_))
      refine Vc.cond' rfl (fun hb2 => ?_) (fun hb2 => ?_)
      · replace h := h.1 hb2
        refine rZ ?_
        refine mvZ (.int .i64 n1) rfl (wZ rg (o_addG rfl rfl h.1 ?_))
        replace h := h.2
        refine asZ (.int .i64 (n1 + 1)) rfl (nZ (rZ (mvZ (.int .i64 k1) rfl (wZ rg (o_addG rfl rfl h.1 ?_)))))
        replace h := h.2
        refine asZ (.int .i64 (k1 + 1)) rfl (nZ ?_)
        exact ⟨((n1 + 1), (k1 + 1)), (canon (fc vr (fc vr (fc vr (fc vr (fc vr (fn)))))) (sn)), h⟩
      replace h := h.2 hb2
      refine Vc.skip' ?_
      refine rZ ?_
      refine mvZ (.int .i64 k1) rfl (wZ rg (o_addG rfl rfl h.1 ?_))
      replace h := h.2
      refine asZ (.int .i64 (k1 + 1)) rfl (nZ ?_)
      exact ⟨(n1, (k1 + 1)), (canon (fc vr (fc vr (fc vr (fc vr (fc vr (fn)))))) (sn)), h⟩
    replace h := h.2 hb1
    refine Vc.exit' (exB_self ?_)
    refine rZ ?_
    refine mvZ (.int .i64 i) rfl (wZ rg (o_addG rfl rfl h.1 ?_))
    replace h := h.2
    refine asZ (.int .i64 (i + 1)) rfl (nZ ?_)
    exact ⟨(n1, (i + 1)), (canon (fc vr (fc vr (fc vr (fc vr (fn))))) (sn)), h⟩
  replace h := h.2 hb
  refine Vc.exit' (exB_self ?_)
  refine qZ (rZ (mvZ (.int .i64 n) rfl (asZ (.int .i64 n) rfl (nZ ?_))))
  refine Vc.ret' ?_
  refine res_tmp (v := .int .i64 n) rfl (res_nil ?_)
  show Gives _ (.int .i64 n) _
  exact gives_out hrg (VW.refl _) (hQ _ h)
end Go.Proofs.Ytiamkdpljeemkaa
/- Walks of functions. Conditions: none. -/
namespace Go.Proofs.Ytiamkdpljeemkaa
open Go.Gg
set_option maxRecDepth 100000
theorem ref14_Exchange_ctr {o : List Int} {level : Int} {Q : List Int → Prop} {S : St} {R : AV → St → Prop} (h : ref14_Exchange_W o level Q) (hQ : ∀ r1, Q r1 → R (eL (AV.int .i64) r1) S) :
    Ctr Try.prog 60 [eL (AV.int .i64) o, AV.int .i64 level] S R := by
  unfold ref14_Exchange_W at h
  refine enterT Try.func60 rfl Try.ntmps60 Try.results60 (by kernel_rfl) (fun rg hrg => ?_)
  refine qZ (rZ (asZ .nil rfl (nZ (qZ (rZ (asZ .nil rfl (nZ (qZ (rZ (mvZ .nil rfl (mvZ (eL (AV.int .i64) o) rfl (wZ rg (o_appN td25 bts3 ok3 zav3 (xs := o) (enc := AV.int .i64) (rfl) (kk := 1) rfl rfl (fun _ => rfl) (fun _ => rfl) h.1 rfl (fun g1 => ?_))))))))))))))
  replace h := h.2
  refine asZ (.sl 1 rg 8 g1 0 o.length) rfl (nZ (qZ ?_))
  have hg := h.1
  replace h := h.2
  have hg1 := h.1
  replace h := h.2
  have hi := h.1
  replace h := h.2
  have hi1 := h.1
  replace h := h.2
  have hi2 := h.1
  replace h := h.2
  have hi3 := h.1
  replace h := h.2
  refine Vc.drawn' mixed rg (fun _ => jcr2) (by kernel_rfl) ?_
  refine dP rfl rfl (o_move (v := .sl 1 rg 8 g1 0 o.length) rfl (dP rfl rfl (o_move (v := .int .i64 level) rfl (dP rfl rfl (o_move (v := .sl 1 rg 8 g1 0 o.length) rfl (dP rfl rfl (o_move (v := .int .i64 level) rfl (dP rfl rfl (o_addG rfl rfl hg (dP rfl rfl (o_move (v := .sl 1 rg 8 g1 0 o.length) rfl (dP rfl rfl (o_move (v := .int .i64 level) rfl (dP rfl rfl (o_addG rfl rfl hg1 ?_)))))))))))))))
  refine dP rfl rfl (o_idxR0 td25 sz3 (by decide) rfl rfl hi (dL (E := ([(rg, 8)], [])) rfl rfl (by simp) (cfn) (o_loadR1 (atL (k := 8) rfl) sz3 ag3 rfl (lt_of hi (by first | rfl | omega | (simp only [go_sem] <;> omega))) rfl (v := .int .i64 (at' o (level + 1))) rfl (dP rfl rfl (o_move (v := .sl 1 rg 8 g1 0 o.length) rfl (dP rfl rfl (o_move (v := .int .i64 level) rfl ?_)))))))
  refine dP rfl rfl (o_idxR0 td25 sz3 (by decide) rfl rfl hi1 (dL (E := ([(rg, 8)], [])) rfl rfl (by simp) (cfa (by simp [apartE]) (cfn)) (o_loadR1 (atL (k := 8) rfl) sz3 ag3 rfl (lt_of hi1 (by first | rfl | omega | (simp only [go_sem] <;> omega))) rfl (v := .int .i64 (at' o level)) rfl (dP rfl rfl (o_idxR0 td25 sz3 (by decide) rfl rfl hi2 ?_)))))
  refine dL (E := ([], [(rg, 8)])) rfl rfl (by simp) (cfo (by kernel_rfl) (cfo (by kernel_rfl) (cfn))) (o_storeR1 (atL (k := 8) rfl) sz3 (by decide) (x' := (at' o (level + 1))) (fun _ => rfl) rfl rfl (lt_of hi2 (by first | rfl | omega | (simp only [go_sem] <;> omega))) rfl rfl setL (dP rfl rfl (o_idxR0 td25 sz3 (by decide) rfl rfl hi3 ?_)))
  refine dL (E := ([], [(rg, 8)])) rfl rfl (by simp) (cfo (by kernel_rfl) (cfo (by kernel_rfl) (cfo (by kernel_rfl) (cfn)))) (o_storeR1 (atL (k := 8) rfl) sz3 (by decide) (x' := (at' o level)) (fun _ => rfl) rfl rfl (lt_of hi3 (by first | rfl | omega | (simp only [go_sem] <;> omega))) rfl rfl setL (dN (qZ (rZ (mvZ (.sl 1 rg 8 g1 0 o.length) rfl (asZ (.sl 1 rg 8 g1 0 o.length) rfl (nZ ?_)))))))
  refine Vc.ret' ?_
  refine res_tmp (v := .sl 1 rg 8 g1 0 o.length) rfl (res_nil ?_)
  show Gives _ (.sl 1 rg 8 g1 0 o.length) _
  refine gives_freeze (k := 8) (xs := List.map (AV.int .i64) (set' (set' o level (at' o (level + 1))) (level + 1) (at' o level))) rfl (v' := eL (AV.int .i64) (set' (set' o level (at' o (level + 1))) (level + 1) (at' o level))) (frz_full (by first | rfl | omega | (simp only [go_sem] <;> omega))) ?_
  exact gives_out hrg (VW.refl _) (hQ _ h)
end Go.Proofs.Ytiamkdpljeemkaa
