/- Walks of functions. Conditions: none. -/
import Derived.Test.YtiamkdpljeemkaaWa
import Derived.Test.YtiamkdpljeemkaaGgTy
import Derived.Test.YtiamkdpljeemkaaK3
/- Walks of functions. Conditions: none. -/
namespace Go.Proofs.Ytiamkdpljeemkaa
open Go.Gg
set_option maxRecDepth 100000
theorem ref14_Exchange_ctr {o : List Int} {level : Int} {Q : List Int → Prop} {S : St} {R : AV → St → Prop} (h : ref14_Exchange_W o level Q) (hQ : ∀ r1, Q r1 → R (eL (AV.int .i64) r1) S) :
    Ctr Try.prog 60 [eL (AV.int .i64) o, AV.int .i64 level] S R := by
  unfold ref14_Exchange_W at h
  refine enterT Try.func60 rfl Try.ntmps60 Try.results60 (by kernel_rfl) (fun rg hrg => ?_)
  refine qZ (rZ (asZ .nil rfl (nZ (qZ (rZ (asZ .nil rfl (nZ (qZ (rZ (mvZ .nil rfl (mvZ (eL (AV.int .i64) o) rfl (wZ rg (o_appN td25 bts3 ok3 zav3 (xs := o) (enc := AV.int .i64) (rfl) (kk := 1) rfl rfl (fun _ => rfl) (fun _ => rfl) h.1 rfl (fun g1 => ?_))))))))))))))
  replace h := h.2
  refine asZ (.sl 1 rg 8 g1 0 o.length) rfl (nZ (qZ ?_))
  have hg := h.1
  replace h := h.2
  have hg1 := h.1
  replace h := h.2
  have hi := h.1
  replace h := h.2
  have hi1 := h.1
  replace h := h.2
  have hi2 := h.1
  replace h := h.2
  have hi3 := h.1
  replace h := h.2
  refine Vc.drawn' mixed rg (fun _ => jcr2) (by kernel_rfl) ?_
  refine dP rfl rfl (o_move (v := .sl 1 rg 8 g1 0 o.length) rfl (dP rfl rfl (o_move (v := .int .i64 level) rfl (dP rfl rfl (o_move (v := .sl 1 rg 8 g1 0 o.length) rfl (dP rfl rfl (o_move (v := .int .i64 level) rfl (dP rfl rfl (o_addG rfl rfl hg (dP rfl rfl (o_move (v := .sl 1 rg 8 g1 0 o.length) rfl (dP rfl rfl (o_move (v := .int .i64 level) rfl (dP rfl rfl (o_addG rfl rfl hg1 ?_)))))))))))))))
  refine dP rfl rfl (o_idxR0 td25 sz3 (by decide) rfl rfl hi (dL (E := ([(rg, 8)], [])) rfl rfl (by simp) (cfn) (o_loadR1 (atL (k := 8) rfl) sz3 ag3 rfl (lt_of hi (by first | rfl | omega | (simp only [go_sem] <;> omega))) rfl (v := .int .i64 (at' o (level + 1))) rfl (dP rfl rfl (o_move (v := .sl 1 rg 8 g1 0 o.length) rfl (dP rfl rfl (o_move (v := .int .i64 level) rfl ?_)))))))
  refine dP rfl rfl (o_idxR0 td25 sz3 (by decide) rfl rfl hi1 (dL (E := ([(rg, 8)], [])) rfl rfl (by simp) (cfa (by simp [apartE]) (cfn)) (o_loadR1 (atL (k := 8) rfl) sz3 ag3 rfl (lt_of hi1 (by first | rfl | omega | (simp only [go_sem] <;> omega))) rfl (v := .int .i64 (at' o level)) rfl (dP rfl rfl (o_idxR0 td25 sz3 (by decide) rfl rfl hi2 ?_)))))
  refine dL (E := ([], [(rg, 8)])) rfl rfl (by simp) (cfo (by kernel_rfl) (cfo (by kernel_rfl) (cfn))) (o_storeR1 (atL (k := 8) rfl) sz3 (by decide) (x' := (at' o (level + 1))) (fun _ => rfl) rfl rfl (lt_of hi2 (by first | rfl | omega | (simp only [go_sem] <;> omega))) rfl rfl setL (dP rfl rfl (o_idxR0 td25 sz3 (by decide) rfl rfl hi3 ?_)))
  refine dL (E := ([], [(rg, 8)])) rfl rfl (by simp) (cfo (by kernel_rfl) (cfo (by kernel_rfl) (cfo (by kernel_rfl) (cfn)))) (o_storeR1 (atL (k := 8) rfl) sz3 (by decide) (x' := (at' o level)) (fun _ => rfl) rfl rfl (lt_of hi3 (by first | rfl | omega | (simp only [go_sem] <;> omega))) rfl rfl setL (dN (qZ (rZ (mvZ (.sl 1 rg 8 g1 0 o.length) rfl (asZ (.sl 1 rg 8 g1 0 o.length) rfl (nZ ?_)))))))
  refine Vc.ret' ?_
  refine res_tmp (v := .sl 1 rg 8 g1 0 o.length) rfl (res_nil ?_)
  show Gives _ (.sl 1 rg 8 g1 0 o.length) _
  refine gives_freeze (k := 8) (xs := List.map (AV.int .i64) (set' (set' o level (at' o (level + 1))) (level + 1) (at' o level))) rfl (v' := eL (AV.int .i64) (set' (set' o level (at' o (level + 1))) (level + 1) (at' o level))) (frz_full (by first | rfl | omega | (simp only [go_sem] <;> omega))) ?_
  exact gives_out hrg (VW.refl _) (hQ _ h)
end Go.Proofs.Ytiamkdpljeemkaa
/- Walks of functions. Conditions: none. -/
namespace Go.Proofs.Ytiamkdpljeemkaa
open Go.Gg
set_option maxRecDepth 100000
theorem ref15_value_ctr {d : GDiagram} {ref : Int} {state : Int} {Q : Bool → Prop} {S : St} {R : AV → St → Prop} (h : ref15_value_W d ref state Q) (hQ : ∀ r1, Q r1 → R (AV.bool r1) S) :
    Ctr Try.prog 160 [eDiagram d, AV.int .i64 ref, AV.int .i64 state] S R := by
  unfold ref15_value_W at h
  refine enterT Try.func160 rfl Try.ntmps160 Try.results160 (by kernel_rfl) (fun rg hrg => ?_)
  refine qZ (rZ (wZ rg (o_box (v := eDiagram d) rfl rfl (kk := 3) rfl (by decide) (fun g1 => (asZ (.bool false) rfl (nZ (qZ ?_)))))))
  refine Vc.blk ?_
  obtain ⟨I, μ, h0, hI⟩ := h
  refine Vc.loop' (σ := (Int)) (fun y => I y) (fun y => μ y) (fun y => envOf [(1, .int .i64 y), (2, .int .i64 state), (3, .ptr rg 3 g1 0 0)]) (fun y => stL S rg [(3, .arr 3 [eDiagram d], g1)]) ref (canon (fc vr (fc vr (fc vr (fn)))) (sc rfl (sn))) h0 (fun ref1 h => ?_)
  replace h := hI ref1 h
  show Vc _ _ _ _ (envOf [(1, .int .i64 ref1), (2, .int .i64 state), (3, .ptr rg 3 g1 0 0)]) (stL S rg [(3, .arr 3 [eDiagram d], g1)])
  refine qZ (qZ (rZ (mvZ (.int .i64 ref1) rfl (wZ rg (o_gtr rfl rfl (nZ ?_))))))
  refine Vc.cond' rfl (fun hb => ?_) (fun hb => ?_)
  · replace h := h.1 hb
    refine Vc.skip' ?_
    refine Vc.blk ?_
    refine qZ (rZ (wZ rg (o_faP td30 rfl rfl (by rw [sz28]; decide) rfl (wZ rg (o_loadB1 (atL (k := 3) rfl) sz28 ag28 rfl rfl (v := eL eDNode d.Nodes) rfl (mvZ (.int .i64 ref1) rfl (wZ rg (o_subG rfl rfl h.1 ?_))))))))
    replace h := h.2
    refine wZ rg (o_idxL td28 sz97 (by decide) (fun _ => rfl) rfl rfl h.1 ?_)
    replace h := h.2
    refine wZ rg (o_loadIA sz97 (by decide) ag97 rfl rfl (v := eDNode (at' d.Nodes (ref1 - 2))) rfl (wZ rg (o_alloc zav97 ok97 (kk := 3) rfl (fun g2 => (wZ rg (o_storeB (atL (k := 7) rfl) sz97 (by decide) rfl (w := eDNode (at' d.Nodes (ref1 - 2))) rfl rfl rfl (v := eDNode (at' d.Nodes (ref1 - 2))) rfl setL (nZ (qZ (rZ (wZ rg (o_faP td97 rfl rfl (by rw [sz3]; decide) rfl ?_)))))))))))
    refine wZ rg (o_loadB1 (atL (k := 7) rfl) sz3 ag3 rfl rfl (v := .int .i64 ((at' d.Nodes (ref1 - 2)).Lo)) rfl (asZ (.int .i64 ((at' d.Nodes (ref1 - 2)).Lo)) rfl (nZ (qZ (rZ (mvZ (.int .i64 state) rfl (wZ rg (o_faP td97 rfl rfl (by rw [sz3]; decide) rfl (wZ rg (o_loadB1 (atL (k := 7) rfl) sz3 ag3 rfl rfl (v := .int .i64 ((at' d.Nodes (ref1 - 2)).Var)) rfl (wZ rg (o_shr rfl rfl h.1 ?_))))))))))))
    replace h := h.2
    refine wZ rg (o_and rfl rfl (wZ rg (o_eql rfl rfl (nZ ?_))))
    refine Vc.cond' rfl (fun hb1 => ?_) (fun hb1 => ?_)
    · replace h := h.1 hb1
      refine rZ ?_
      refine wZ rg (o_faP td97 rfl rfl (by rw [sz3]; decide) rfl (wZ rg (o_loadB1 (atL (k := 7) rfl) sz3 ag3 rfl rfl (v := .int .i64 ((at' d.Nodes (ref1 - 2)).Hi)) rfl (asZ (.int .i64 ((at' d.Nodes (ref1 - 2)).Hi)) rfl (nZ ?_)))))
      exact ⟨(at' d.Nodes (ref1 - 2)).Hi, (canon (fc vr (fc vr (fc vr (fn)))) (sc rfl (sn))), h⟩
    replace h := h.2 hb1
    refine Vc.skip' ?_
    exact ⟨(at' d.Nodes (ref1 - 2)).Lo, (canon (fc vr (fc vr (fc vr (fn)))) (sc rfl (sn))), h⟩
  replace h := h.2 hb
  refine Vc.exit' (exB_self ?_)
  refine qZ (rZ (mvZ (.int .i64 ref1) rfl (wZ rg (o_eql rfl rfl (asZ (.bool (ref1 == 1)) rfl (nZ ?_))))))
  refine Vc.ret' ?_
  refine res_tmp (v := .bool (ref1 == 1)) rfl (res_nil ?_)
  show Gives _ (.bool (ref1 == 1)) _
  exact gives_out hrg (VW.refl _) (hQ _ h)
theorem ref15_Value_ctr {d : GDiagram} {state : Int} {Q : Bool → Prop} {S : St} {R : AV → St → Prop} (h : ref15_Value_W d state Q) (hQ : ∀ r1, Q r1 → R (AV.bool r1) S) :
    Ctr Try.prog 140 [eDiagram d, AV.int .i64 state] S R := by
  unfold ref15_Value_W at h
  refine enterT Try.func140 rfl Try.ntmps140 Try.results140 (by kernel_rfl) (fun rg hrg => ?_)
  refine qZ (rZ (wZ rg (o_box (v := eDiagram d) rfl rfl (kk := 3) rfl (by decide) (fun g1 => (asZ (.bool false) rfl (nZ (qZ (rZ (wZ rg (o_loadBA (atL (k := 2) rfl) sz30 (by decide) ag30 rfl rfl (v := eDiagram d) rfl (wZ rg (o_faP td30 rfl rfl (by rw [sz3]; decide) rfl (wZ rg (o_loadB1 (atL (k := 2) rfl) sz3 ag3 rfl rfl (v := .int .i64 d.Root) rfl (mvZ (.int .i64 state) rfl ?_)))))))))))))))
  refine wZ rg (o_call (us := [eDiagram d, AV.int .i64 d.Root, AV.int .i64 state]) rfl (vl' vr (vl' vr (vl' vr (vn)))) (ref15_value_ctr h fun r h => (asZ (.bool r) rfl (nZ ?_))))
  refine Vc.ret' ?_
  refine res_tmp (v := .bool r) rfl (res_nil ?_)
  show Gives _ (.bool r) _
  exact gives_out hrg (VW.refl _) (hQ _ h)
theorem ref15_Table_ctr {d : GDiagram} {Q : List Bool → Prop} {S : St} {R : AV → St → Prop} (h : ref15_Table_W d Q) (hQ : ∀ r1, Q r1 → R (eL AV.bool r1) S) :
    Ctr Try.prog 99 [eDiagram d] S R := by
  unfold ref15_Table_W at h
  refine enterT Try.func99 rfl Try.ntmps99 Try.results99 (by kernel_rfl) (fun rg hrg => ?_)
  refine qZ (rZ (wZ rg (o_box (v := eDiagram d) rfl rfl (kk := 3) rfl (by decide) (fun g1 => (asZ .nil rfl (nZ (qZ (rZ (asZ .nil rfl (nZ (qZ (qZ (rZ (asZ (.int .i64 0) rfl (nZ ?_)))))))))))))))
  refine Vc.blk ?_
  refine Vc.mat 3 18 1 rfl (by decide) (fun g2 => ?_)
  obtain ⟨I, μ, h0, hI⟩ := h
  refine Vc.loop' (σ := ((Int × (List Bool)) × (Nat))) (fun y => I y.1) (fun y => μ y.1) (fun y => envOf [(1, .ptr rg 1 g1 0 0), (3, .sl 1 rg 18 y.2 0 y.1.2.length), (4, .int .i64 y.1.1)]) (fun y => stL S rg [(1, .arr 3 [eDiagram d], g1), (18, .arr 1 (List.map AV.bool y.1.2), y.2)]) ((0, []), g2) (canon (fc vr (fc (VW.slen (by first | rfl | omega | (simp only [go_sem] <;> omega))) (fc vr (fn)))) (sc rfl (sc rfl (sn)))) h0 (fun y h => ?_)
  obtain ⟨⟨s, out⟩, g3⟩ := y
  replace h := hI (s, out) h
  show Vc _ _ _ _ (envOf [(1, .ptr rg 1 g1 0 0), (3, .sl 1 rg 18 g3 0 out.length), (4, .int .i64 s)]) (stL S rg [(1, .arr 3 [eDiagram d], g1), (18, .arr 1 (List.map AV.bool out), g3)])
  refine qZ (qZ (rZ (mvZ (.int .i64 s) rfl (wZ rg (o_faP td30 rfl rfl (by rw [sz25]; decide) rfl (wZ rg (o_loadB1 (atL (k := 1) rfl) sz25 ag25 rfl rfl (v := eL (AV.int .i64) d.Order) rfl (wZ rg (o_len td25 rfl (wZ rg (o_shlG rfl rfl h.1 ?_)))))))))))
  replace h := h.2
  refine wZ rg (o_lss rfl rfl (nZ ?_))
  refine Vc.cond' rfl (fun hb => ?_) (fun hb => ?_)
  · replace h := h.1 hb
    refine Vc.skip' ?_
    refine qZ ?_
    refine Vc.blk ?_
    refine rZ ?_
    refine mvZ (.sl 1 rg 18 g3 0 out.length) rfl (wZ rg (o_loadBA (atL (k := 1) rfl) sz30 (by decide) ag30 rfl rfl (v := eDiagram d) rfl (mvZ (.int .i64 s) rfl (wZ rg (o_call (us := [eDiagram d, AV.int .i64 s]) rfl (vl' vr (vl' vr (vn))) (ref15_Value_ctr h fun r h => (wZ rg (o_bslice td110 ok4 zav4 (es := [.bool r]) rfl (kk := 1) rfl rfl rfl rfl rfl rfl (fun g4 => ?_)))))))))
    refine wZ rg (o_appR td110 bts4 ok4 zav4 (es := out) (xs := [r]) (enc := AV.bool) (atL (k := 18) rfl) (by first | rfl | omega | (simp only [go_sem] <;> omega)) (view_rowE (atL (k := 17) rfl) (by first | rfl | omega | (simp only [go_sem] <;> omega))) (kk := 1) rfl rfl (fun _ => rfl) (fun _ => rfl) h.1 rfl (fun _ => setL) (fun g5 => ?_))
    replace h := h.2
    refine asZ (.sl 1 rg 18 g5 0 ((out ++ [r]).length)) rfl (nZ (rZ (mvZ (.int .i64 s) rfl (wZ rg (o_addG rfl rfl h.1 ?_)))))
    replace h := h.2
    refine asZ (.int .i64 (s + 1)) rfl (nZ ?_)
    exact ⟨(((s + 1), (out ++ [r])), g5), (canon (fc vr (fc vr (fc vr (fn)))) (sc rfl (sc rfl (sn)))), h⟩
  replace h := h.2 hb
  refine Vc.exit' (exB_self ?_)
  refine qZ (rZ (mvZ (.sl 1 rg 18 g3 0 out.length) rfl (asZ (.sl 1 rg 18 g3 0 out.length) rfl (nZ ?_))))
  refine Vc.ret' ?_
  refine res_tmp (v := .sl 1 rg 18 g3 0 out.length) rfl (res_nil ?_)
  show Gives _ (.sl 1 rg 18 g3 0 out.length) _
  refine gives_freeze (k := 18) (xs := List.map AV.bool out) rfl (v' := eL AV.bool out) (frz_full rfl) ?_
  exact gives_out hrg (VW.refl _) (hQ _ h)
end Go.Proofs.Ytiamkdpljeemkaa
/- Walks of functions. Conditions: none. -/
namespace Go.Proofs.Ytiamkdpljeemkaa
open Go.Gg
set_option maxRecDepth 100000
theorem ref17_Reorder_ctr {d : GDiagram} {o : List Int} {Q : GDiagram → Prop} {S : St} {R : AV → St → Prop} (h : ref17_Reorder_W d o Q) (hQ : ∀ r1, Q r1 → R (eDiagram r1) S) :
    Ctr Try.prog 44 [eDiagram d, eL (AV.int .i64) o] S R := by
  unfold ref17_Reorder_W at h
  refine enterT Try.func44 rfl Try.ntmps44 Try.results44 (by kernel_rfl) (fun rg hrg => ?_)
  refine qZ (rZ (wZ rg (o_box (v := eDiagram d) rfl rfl (kk := 3) rfl (by decide) (fun g1 => (wZ rg (o_alloc zav30 ok30 (kk := 3) rfl (fun g2 => (nZ (qZ (rZ (wZ rg (o_loadBA (atL (k := 2) rfl) sz30 (by decide) ag30 rfl rfl (v := eDiagram d) rfl (wZ rg (o_call (us := [eDiagram d]) rfl (vl' vr (vn)) (ref15_Table_ctr h fun r h => (mvZ (eL (AV.int .i64) o) rfl ?_))))))))))))))))
  refine wZ rg (o_call (us := [eL AV.bool r, eL (AV.int .i64) o]) rfl (vl' vr (vl' vr (vn))) (ref15_Of_ctr h fun r1 h => (wZ rg (o_storeB (atL (k := 4) rfl) sz30 (by decide) rfl (w := eDiagram r1) rfl rfl rfl (v := eDiagram r1) rfl setL (nZ ?_)))))
  refine Vc.ret' ?_
  refine res_cellA (atL (k := 4) rfl) sz30 (by decide) ag30 rfl rfl (v := eDiagram r1) rfl (res_nil ?_)
  show Gives _ (eDiagram r1) _
  exact gives_out hrg (VW.refl _) (hQ _ h)
theorem ref17_Swap_ctr {d : GDiagram} {level : Int} {Q : GDiagram → Prop} {S : St} {R : AV → St → Prop} (h : ref17_Swap_W d level Q) (hQ : ∀ r1, Q r1 → R (eDiagram r1) S) :
    Ctr Try.prog 63 [eDiagram d, AV.int .i64 level] S R := by
  unfold ref17_Swap_W at h
  refine enterT Try.func63 rfl Try.ntmps63 Try.results63 (by kernel_rfl) (fun rg hrg => ?_)
  refine qZ (rZ (wZ rg (o_box (v := eDiagram d) rfl rfl (kk := 3) rfl (by decide) (fun g1 => (wZ rg (o_alloc zav30 ok30 (kk := 3) rfl (fun g2 => (nZ (qZ ?_)))))))))
  obtain ⟨r, hc, h⟩ := h
  obtain ⟨r1, hc1, h⟩ := h
  refine Vc.drawn' mixed rg (usOf [(4, pc (eL (AV.int .i64) r)), (5, pc (eDiagram r1))]) (by kernel_rfl) ?_
  refine dL (E := ([(rg, 2)], [])) rfl rfl (by simp) (cfn) (o_loadBA (atL (k := 2) rfl) sz30 (by decide) ag30 rfl rfl (v := eDiagram d) rfl (dP rfl rfl (o_faP td30 rfl rfl (by rw [sz25]; decide) rfl (dL (E := ([(rg, 2)], [])) rfl rfl (by simp) (cfa (by simp [apartE]) (cfn)) (o_loadB1 (atL (k := 2) rfl) sz25 ag25 rfl rfl (v := eL (AV.int .i64) d.Order) rfl (dP rfl rfl (o_move (v := .int .i64 level) rfl ?_)))))))
  refine dC (vs := [eL (AV.int .i64) d.Order, AV.int .i64 level]) rfl (vl' vr (vl' vr (vn))) (fun _ => ref14_Exchange_ctr hc (fun _ hr => ⟨by rw [hr], rfl⟩)) rfl ?_
  refine dC (vs := [eDiagram d, eL (AV.int .i64) r]) rfl (vl' vr (vl' vr (vn))) (fun _ => ref17_Reorder_ctr hc1 (fun _ hr => ⟨by rw [hr], rfl⟩)) rfl ?_
  refine dL (E := ([], [(rg, 4)])) rfl rfl (by simp) (cfo (by kernel_rfl) (cfo (by kernel_rfl) (cfn))) (o_storeB (atL (k := 4) rfl) sz30 (by decide) rfl (w := eDiagram r1) rfl rfl rfl (v := eDiagram r1) rfl setL (dN ?_))
  refine Vc.ret' ?_
  refine res_cellA (atL (k := 4) rfl) sz30 (by decide) ag30 rfl rfl (v := eDiagram r1) rfl (res_nil ?_)
  show Gives _ (eDiagram r1) _
  exact gives_out hrg (VW.refl _) (hQ _ h)
end Go.Proofs.Ytiamkdpljeemkaa
