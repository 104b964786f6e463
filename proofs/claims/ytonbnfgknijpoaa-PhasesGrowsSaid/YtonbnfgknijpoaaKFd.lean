/- Walks of functions. Conditions: none. -/
import Derived.Test.YtonbnfgknijpoaaWF
import Derived.Test.YtonbnfgknijpoaaGgTy
namespace Go.Proofs.Ytonbnfgknijpoaa
open Go.Gg
set_option maxRecDepth 100000
theorem ref08_Below_ctr {f : GFormula} {Q : List Bool → Prop} {S : St} {R : AV → St → Prop} (h : ref08_Below_W f Q) (hQ : ∀ r1, Q r1 → R (eL AV.bool r1) S) :
    Ctr Try.prog 145 [eFormula f] S R := by
  unfold ref08_Below_W at h
  refine enterT Try.func145 rfl Try.ntmps145 Try.results145 (by kernel_rfl) (fun rg hrg => ?_)
  refine qZ (rZ (wZ rg (o_box (v := eFormula f) rfl rfl (kk := 3) rfl (by decide) (fun g1 => (asZ .nil rfl (nZ (qZ (rZ (wZ rg (o_faP td70 rfl rfl (by rw [sz3]; decide) rfl (wZ rg (o_loadB1 (atL (k := 1) rfl) sz3 ag3 rfl rfl (v := .int .i64 f.Vars) rfl (wZ rg (o_faP td70 rfl rfl (by rw [sz68]; decide) rfl (wZ rg (o_loadB1 (atL (k := 1) rfl) sz68 ag68 rfl rfl (v := eL eNode f.Nodes) rfl ?_))))))))))))))))
  refine wZ rg (o_len td68 rfl (wZ rg (o_addG rfl rfl h.1 ?_)))
  replace h := h.2
  refine wZ rg (o_make td63 bts4 ok4 (enc := AV.bool) (z' := false) zav4 (kk := 1) rfl rfl rfl h.1 (fun g2 => ?_))
  replace h := h.2
  refine asZ (.sl 1 rg 13 g2 0 (Int.toNat (f.Vars + (f.Nodes.length : Int)))) rfl (nZ (qZ (rZ (mvZ (.sl 1 rg 13 g2 0 (Int.toNat (f.Vars + (f.Nodes.length : Int)))) rfl (wZ rg (o_faP td70 rfl rfl (by rw [sz3]; decide) rfl (wZ rg (o_loadB1 (atL (k := 1) rfl) sz3 ag3 rfl rfl (v := .int .i64 f.Top) rfl (wZ rg (o_idxR0 td63 sz4 (by decide) rfl rfl h.1 ?_))))))))))
  have hi := h.1
  replace h := h.2
  refine wZ rg (o_storeR1 (atL (k := 13) rfl) sz4 (by decide) (x' := true) (fun _ => rfl) rfl rfl (lt_of hi (by first | rfl | omega | (simp only [go_sem] <;> omega))) rfl rfl setL (nZ (qZ (qZ (rZ (wZ rg (o_faP td70 rfl rfl (by rw [sz68]; decide) rfl (wZ rg (o_loadB1 (atL (k := 1) rfl) sz68 ag68 rfl rfl (v := eL eNode f.Nodes) rfl (wZ rg (o_len td68 rfl (wZ rg (o_subG rfl rfl h.1 ?_)))))))))))))
  replace h := h.2
  refine asZ (.int .i64 ((f.Nodes.length : Int) - 1)) rfl (nZ ?_)
  refine Vc.blk ?_
  obtain ⟨I, μ, h0, hI⟩ := h
  refine Vc.loop' (σ := (Int × (List Bool))) (fun y => I y) (fun y => μ y) (fun y => envOf [(1, .ptr rg 1 g1 0 0), (3, .sl 1 rg 13 g2 0 y.2.length), (4, .int .i64 y.1)]) (fun y => stL S rg [(1, .arr 3 [eFormula f], g1), (13, .arr 1 (List.map AV.bool y.2), g2)]) (((f.Nodes.length : Int) - 1), (set' (rep' (f.Vars + (f.Nodes.length : Int)) false) f.Top true)) (canon (fc vr (fc (VW.slen (by first | rfl | omega | (simp only [go_sem] <;> omega))) (fc vr (fn)))) (sc rfl (sc rfl (sn)))) h0 (fun y h => ?_)
  obtain ⟨i, mark⟩ := y
  replace h := hI (i, mark) h
  show Vc _ _ _ _ (envOf [(1, .ptr rg 1 g1 0 0), (3, .sl 1 rg 13 g2 0 mark.length), (4, .int .i64 i)]) (stL S rg [(1, .arr 3 [eFormula f], g1), (13, .arr 1 (List.map AV.bool mark), g2)])
  refine qZ (qZ (rZ (mvZ (.int .i64 i) rfl (wZ rg (o_geq rfl rfl (nZ ?_))))))
  refine Vc.cond' rfl (fun hb => ?_) (fun hb => ?_)
  · replace h := h.1 hb
    refine Vc.skip' ?_
    refine qZ ?_
    refine Vc.blk ?_
    refine qZ (qZ (rZ (mvZ (.sl 1 rg 13 g2 0 mark.length) rfl (wZ rg (o_faP td70 rfl rfl (by rw [sz3]; decide) rfl (wZ rg (o_loadB1 (atL (k := 1) rfl) sz3 ag3 rfl rfl (v := .int .i64 f.Vars) rfl (mvZ (.int .i64 i) rfl (wZ rg (o_addG rfl rfl h.1 ?_))))))))))
    replace h := h.2
    refine wZ rg (o_idxR0 td63 sz4 (by decide) rfl rfl h.1 ?_)
    have hi1 := h.1
    replace h := h.2
    refine wZ rg (o_loadR1 (atL (k := 13) rfl) sz4 ag4 rfl (lt_of hi1 (by first | rfl | omega | (simp only [go_sem] <;> omega))) rfl (v := .bool (at' mark (f.Vars + i))) rfl (wZ rg (o_not rfl (nZ ?_))))
    refine Vc.cond' rfl (fun hb1 => ?_) (fun hb1 => ?_)
    · replace h := h.1 hb1
      refine Vc.exit' (exB_self ?_)
      refine rZ ?_
      refine mvZ (.int .i64 i) rfl (wZ rg (o_subG rfl rfl h.1 ?_))
      replace h := h.2
      refine asZ (.int .i64 (i - 1)) rfl (nZ ?_)
      exact ⟨((i - 1), mark), (canon (fc vr (fc vr (fc vr (fn)))) (sc rfl (sc rfl (sn)))), h⟩
    replace h := h.2 hb1
    refine Vc.skip' ?_
    refine qZ (rZ (wZ rg (o_faP td70 rfl rfl (by rw [sz68]; decide) rfl (wZ rg (o_loadB1 (atL (k := 1) rfl) sz68 ag68 rfl rfl (v := eL eNode f.Nodes) rfl (mvZ (.int .i64 i) rfl (wZ rg (o_idxL td68 sz78 (by decide) (fun _ => rfl) rfl rfl h.1 ?_))))))))
    replace h := h.2
    refine wZ rg (o_fa td78 rfl rfl (by rw [sz76]; decide) rfl rfl (wZ rg (o_loadI1 sz76 ag76 rfl rfl (v := eL (AV.int .i64) ((at' f.Nodes i).Args)) rfl (wZ rg (o_len td76 rfl (mvZ (.int .i64 0) rfl (nZ ?_)))))))
    refine Vc.blk ?_
    obtain ⟨I, μ, h0, hI⟩ := h
    refine Vc.loop' (σ := (Int × (List Bool))) (fun y => I y) (fun y => μ y) (fun y => envOf [(1, .ptr rg 1 g1 0 0), (3, .sl 1 rg 13 g2 0 y.2.length), (4, .int .i64 i), (39, eL (AV.int .i64) ((at' f.Nodes i).Args)), (40, .int .i64 (((at' f.Nodes i).Args).length : Int)), (41, .int .i64 y.1)]) (fun y => stL S rg [(1, .arr 3 [eFormula f], g1), (13, .arr 1 (List.map AV.bool y.2), g2)]) (0, mark) (canon (fc vr (fc vr (fc vr (fc vr (fc vr (fc vr (fn))))))) (sc rfl (sc rfl (sn)))) h0 (fun y h => ?_)
    obtain ⟨x, mark1⟩ := y
    replace h := hI (x, mark1) h
    show Vc _ _ _ _ (envOf [(1, .ptr rg 1 g1 0 0), (3, .sl 1 rg 13 g2 0 mark1.length), (4, .int .i64 i), (39, eL (AV.int .i64) ((at' f.Nodes i).Args)), (40, .int .i64 (((at' f.Nodes i).Args).length : Int)), (41, .int .i64 x)]) (stL S rg [(1, .arr 3 [eFormula f], g1), (13, .arr 1 (List.map AV.bool mark1), g2)])
    refine qZ (rZ (wZ rg (o_lss rfl rfl (nZ (qZ ?_)))))
    refine Vc.cond' rfl (fun hb2 => ?_) (fun hb2 => ?_)
    · replace h := h.1 hb2
      refine Vc.skip' ?_
      refine qZ ?_
      refine Vc.blk ?_
      refine qZ (rZ (wZ rg (o_idxL td76 sz3 (by decide) (fun _ => rfl) rfl rfl h.1 ?_)))
      replace h := h.2
      refine wZ rg (o_loadI1 sz3 ag3 rfl rfl (v := .int .i64 (at' ((at' f.Nodes i).Args) x)) rfl (asZ (.int .i64 (at' ((at' f.Nodes i).Args) x)) rfl (nZ (rZ (mvZ (.sl 1 rg 13 g2 0 mark1.length) rfl (mvZ (.int .i64 (at' ((at' f.Nodes i).Args) x)) rfl (wZ rg (o_idxR0 td63 sz4 (by decide) rfl rfl h.1 ?_))))))))
      have hi2 := h.1
      replace h := h.2
      refine wZ rg (o_storeR1 (atL (k := 13) rfl) sz4 (by decide) (x' := true) (fun _ => rfl) rfl rfl (lt_of hi2 (by first | rfl | omega | (simp only [go_sem] <;> omega))) rfl rfl setL (nZ (rZ (wZ rg (o_addG rfl rfl h.1 ?_)))))
      replace h := h.2
      refine mvZ (.int .i64 (x + 1)) rfl (nZ ?_)
      exact ⟨((x + 1), (set' mark1 (at' ((at' f.Nodes i).Args) x) true)), (canon (fc vr (fc (VW.slen (by first | rfl | omega | (simp only [go_sem] <;> omega))) (fc vr (fc vr (fc vr (fc vr (fn))))))) (sc rfl (sc rfl (sn)))), h⟩
    replace h := h.2 hb2
    refine Vc.exit' (exB_self ?_)
    refine rZ ?_
    refine mvZ (.int .i64 i) rfl (wZ rg (o_subG rfl rfl h.1 ?_))
    replace h := h.2
    refine asZ (.int .i64 (i - 1)) rfl (nZ ?_)
    exact ⟨((i - 1), mark1), (canon (fc vr (fc vr (fc vr (fn)))) (sc rfl (sc rfl (sn)))), h⟩
  replace h := h.2 hb
  refine Vc.exit' (exB_self ?_)
  refine qZ (rZ (mvZ (.sl 1 rg 13 g2 0 mark.length) rfl (asZ (.sl 1 rg 13 g2 0 mark.length) rfl (nZ ?_))))
  refine Vc.ret' ?_
  refine res_tmp (v := .sl 1 rg 13 g2 0 mark.length) rfl (res_nil ?_)
  show Gives _ (.sl 1 rg 13 g2 0 mark.length) _
  refine gives_freeze (k := 13) (xs := List.map AV.bool mark) rfl (v' := eL AV.bool mark) (frz_full rfl) ?_
  exact gives_out hrg (VW.refl _) (hQ _ h)
end Go.Proofs.Ytonbnfgknijpoaa
