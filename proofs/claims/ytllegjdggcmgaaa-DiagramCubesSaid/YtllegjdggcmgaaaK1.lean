/- Walks of functions. Conditions: none. -/
import Derived.Test.YtllegjdggcmgaaaWa
import Derived.Test.YtllegjdggcmgaaaGgTy
import Derived.Test.YtllegjdggcmgaaaGd
/- Walks of functions. Conditions: none. -/
namespace Go.Proofs.Ytllegjdggcmgaaa
open Go.Gg
set_option maxRecDepth 100000
theorem base_Num_ctr {err : Option Int} {Q : Int → Prop} {S : St} {R : AV → St → Prop} (h : base_Num_W err Q) (hQ : ∀ r1, Q r1 → R (AV.int .i64 r1) S) :
    Ctr Try.prog 40 [eErr 83 err] S R := by
  unfold base_Num_W at h
  refine enterT Try.func40 rfl Try.ntmps40 Try.results40 (by kernel_rfl) (fun rg hrg => ?_)
  refine qZ (rZ (asZ (.int .i64 0) rfl (nZ (qZ (qZ (rZ (mvZ (eErr 83 err) rfl (wZ rg (o_isnil td29 (E := 83) rfl rfl rfl (nZ ?_))))))))))
  refine Vc.cond' rfl (fun hb => ?_) (fun hb => ?_)
  · replace h := h.1 hb
    refine qZ (rZ (asZ (.int .i64 0) rfl (nZ ?_)))
    refine Vc.ret' ?_
    refine res_tmp (v := .int .i64 0) rfl (res_nil ?_)
    show Gives _ (.int .i64 0) _
    exact gives_out hrg (VW.refl _) (hQ _ h)
  replace h := h.2 hb
  refine Vc.skip' ?_
  refine qZ (qZ (rZ (mvZ (eErr 83 err) rfl (wZ rg (o_assertE td83 ok83 zav83 rfl (mvZ (.tuple [.int .i64 (Option.getD err 0), .bool (Option.isSome err)]) rfl (wZ rg (o_extract (v := .int .i64 (Option.getD err 0)) rfl rfl rfl (wZ rg (o_extract (v := .bool (Option.isSome err)) rfl rfl rfl (asZ (.int .i64 (Option.getD err 0)) rfl (asZ (.bool (Option.isSome err)) rfl (nZ (qZ (rZ ?_)))))))))))))))
  refine mvZ (.bool (Option.isSome err)) rfl (nZ ?_)
  refine Vc.cond' rfl (fun hb1 => ?_) (fun hb1 => ?_)
  · replace h := h.1 hb1
    refine qZ (rZ (mvZ (.int .i64 (Option.getD err 0)) rfl (asZ (.int .i64 (Option.getD err 0)) rfl (nZ ?_))))
    refine Vc.ret' ?_
    refine res_tmp (v := .int .i64 (Option.getD err 0)) rfl (res_nil ?_)
    show Gives _ (.int .i64 (Option.getD err 0)) _
    exact gives_out hrg (VW.refl _) (hQ _ h)
  replace h := h.2 hb1
  refine Vc.skip' ?_
  refine qZ (rZ (asZ (.int .i64 (-1)) rfl (nZ ?_)))
  refine Vc.ret' ?_
  refine res_tmp (v := .int .i64 (-1)) rfl (res_nil ?_)
  show Gives _ (.int .i64 (-1)) _
  exact gives_out hrg (VW.refl _) (hQ _ h)
theorem base_Ints_ctr {a : List Int} {b : List Int} {Q : Bool → Prop} {S : St} {R : AV → St → Prop} (h : base_Ints_W a b Q) (hQ : ∀ r1, Q r1 → R (AV.bool r1) S) :
    Ctr Try.prog 78 [eL (AV.int .i64) a, eL (AV.int .i64) b] S R := by
  unfold base_Ints_W at h
  refine enterT Try.func78 rfl Try.ntmps78 Try.results78 (by kernel_rfl) (fun rg hrg => ?_)
  refine qZ (rZ (asZ (.bool false) rfl (nZ (qZ (qZ (rZ (mvZ (eL (AV.int .i64) a) rfl (wZ rg (o_len td22 rfl (mvZ (eL (AV.int .i64) b) rfl (wZ rg (o_len td22 rfl (wZ rg (o_neq rfl rfl (nZ ?_)))))))))))))))
  refine Vc.cond' rfl (fun hb => ?_) (fun hb => ?_)
  · replace h := h.1 hb
    refine qZ (rZ (asZ (.bool false) rfl (nZ ?_)))
    refine Vc.ret' ?_
    refine res_tmp (v := .bool false) rfl (res_nil ?_)
    show Gives _ (.bool false) _
    exact gives_out hrg (VW.refl _) (hQ _ h)
  replace h := h.2 hb
  refine Vc.skip' ?_
  refine qZ (qZ (rZ (mvZ (eL (AV.int .i64) a) rfl (wZ rg (o_len td22 rfl (mvZ (.int .i64 0) rfl (nZ ?_)))))))
  refine Vc.blk ?_
  obtain ⟨I, μ, h0, hI⟩ := h
  refine Vc.loop' (σ := (Int)) (fun y => I y) (fun y => μ y) (fun y => envOf [(0, eL (AV.int .i64) a), (1, eL (AV.int .i64) b), (12, .int .i64 (a.length : Int)), (13, .int .i64 y)]) (fun y => stL S rg []) 0 (canon (fc vr (fc vr (fc vr (fc vr (fn))))) (sn)) h0 (fun x h => ?_)
  replace h := hI x h
  show Vc _ _ _ _ (envOf [(0, eL (AV.int .i64) a), (1, eL (AV.int .i64) b), (12, .int .i64 (a.length : Int)), (13, .int .i64 x)]) (stL S rg [])
  refine qZ (rZ (wZ rg (o_lss rfl rfl (nZ (qZ ?_)))))
  refine Vc.cond' rfl (fun hb1 => ?_) (fun hb1 => ?_)
  · replace h := h.1 hb1
    refine Vc.skip' ?_
    refine qZ ?_
    refine Vc.blk ?_
    refine qZ (rZ (mvZ (.int .i64 x) rfl (asZ (.int .i64 x) rfl (nZ (qZ ?_)))))
    have hg := h.1
    replace h := h.2
    have hg1 := h.1
    replace h := h.2
    refine Vc.drawn' mixed rg (fun _ => jcr2) (by kernel_rfl) ?_
    refine dP rfl rfl (o_move (v := eL (AV.int .i64) a) rfl (dP rfl rfl (o_move (v := .int .i64 x) rfl (dP rfl rfl (o_idxL td22 sz3 (by decide) (fun _ => rfl) rfl rfl hg (dP rfl rfl (o_loadI1 sz3 ag3 rfl rfl (v := .int .i64 (at' a x)) rfl (dP rfl rfl (o_move (v := eL (AV.int .i64) b) rfl (dP rfl rfl (o_move (v := .int .i64 x) rfl (dP rfl rfl (o_idxL td22 sz3 (by decide) (fun _ => rfl) rfl rfl hg1 ?_)))))))))))))
    refine dP rfl rfl (o_loadI1 sz3 ag3 rfl rfl (v := .int .i64 (at' b x)) rfl (dP rfl rfl (o_neq rfl rfl (dN ?_))))
    refine Vc.cond' rfl (fun hb2 => ?_) (fun hb2 => ?_)
    · replace h := h.1 hb2
      refine qZ (rZ (asZ (.bool false) rfl (nZ ?_)))
      refine Vc.ret' ?_
      refine res_tmp (v := .bool false) rfl (res_nil ?_)
      show Gives _ (.bool false) _
      exact gives_out hrg (VW.refl _) (hQ _ h)
    replace h := h.2 hb2
    refine Vc.skip' ?_
    refine rZ ?_
    refine wZ rg (o_addG rfl rfl h.1 ?_)
    replace h := h.2
    refine mvZ (.int .i64 (x + 1)) rfl (nZ ?_)
    exact ⟨(x + 1), (canon (fc vr (fc vr (fc vr (fc vr (fn))))) (sn)), h⟩
  replace h := h.2 hb1
  refine Vc.exit' (exB_self ?_)
  refine qZ (rZ (asZ (.bool true) rfl (nZ ?_)))
  refine Vc.ret' ?_
  refine res_tmp (v := .bool true) rfl (res_nil ?_)
  show Gives _ (.bool true) _
  exact gives_out hrg (VW.refl _) (hQ _ h)
theorem base_Is_ctr {err : Option Int} {code : Int} {Q : Bool → Prop} {S : St} {R : AV → St → Prop} (h : base_Is_W err code Q) (hQ : ∀ r1, Q r1 → R (AV.bool r1) S) :
    Ctr Try.prog 80 [eErr 83 err, AV.int .i64 code] S R := by
  unfold base_Is_W at h
  refine enterT Try.func80 rfl Try.ntmps80 Try.results80 (by kernel_rfl) (fun rg hrg => ?_)
  refine qZ (rZ (asZ (.bool false) rfl (nZ (qZ (rZ (mvZ (eErr 83 err) rfl (wZ rg (o_assertE td83 ok83 zav83 rfl (mvZ (.tuple [.int .i64 (Option.getD err 0), .bool (Option.isSome err)]) rfl (wZ rg (o_extract (v := .int .i64 (Option.getD err 0)) rfl rfl rfl (wZ rg (o_extract (v := .bool (Option.isSome err)) rfl rfl rfl (asZ (.int .i64 (Option.getD err 0)) rfl (asZ (.bool (Option.isSome err)) rfl ?_)))))))))))))))
  refine nZ (qZ (rZ (mvZ (.bool (Option.isSome err)) rfl (mvZ (.bool (Option.isSome err)) rfl ?_))))
  refine Wl.guard rfl rfl (fun hb => ?_) (fun hb => ?_)
  · replace h := h.1 hb
    refine mvZ (.int .i64 (Option.getD err 0)) rfl ?_
    refine Wl.guardT rfl rfl hb ?_
    refine mvZ (.int .i64 code) rfl ?_
    refine Wl.guardT rfl rfl hb ?_
    refine wZ rg (o_eql rfl rfl (wZ rg (o_pickT rfl hb (v := .bool ((Option.getD err 0) == code)) rfl (asZ (.bool ((Option.getD err 0) == code)) rfl (nZ ?_)))))
    refine Vc.ret' ?_
    refine res_tmp (v := .bool ((Option.getD err 0) == code)) rfl (res_nil ?_)
    show Gives _ (.bool ((Option.getD err 0) == code)) _
    exact gives_out hrg (VW.refl _) (hQ _ h)
  replace h := h.2 hb
  refine Wl.guardF rfl rfl hb rfl ?_
  refine Wl.guardF rfl rfl hb rfl ?_
  refine wZ rg (o_pickF rfl hb (v := .bool false) rfl (asZ (.bool false) rfl (nZ ?_)))
  refine Vc.ret' ?_
  refine res_tmp (v := .bool false) rfl (res_nil ?_)
  show Gives _ (.bool false) _
  exact gives_out hrg (VW.refl _) (hQ _ h)
end Go.Proofs.Ytllegjdggcmgaaa
/- Walks of functions. Conditions: none. -/
namespace Go.Proofs.Ytllegjdggcmgaaa
open Go.Gg
set_option maxRecDepth 100000
theorem base_Diagram_ctr {a : GDiagram} {b : GDiagram} {Q : Bool → Prop} {S : St} {R : AV → St → Prop} (h : base_Diagram_W a b Q) (hQ : ∀ r1, Q r1 → R (AV.bool r1) S) :
    Ctr Try.prog 42 [eDiagram a, eDiagram b] S R := by
  unfold base_Diagram_W at h
  refine enterT Try.func42 rfl Try.ntmps42 Try.results42 (by kernel_rfl) (fun rg hrg => ?_)
  refine qZ (rZ (wZ rg (o_box (v := eDiagram a) rfl rfl (kk := 3) rfl (by decide) (fun g1 => (wZ rg (o_box (v := eDiagram b) rfl rfl (kk := 3) rfl (by decide) (fun g2 => (asZ (.bool false) rfl (nZ (qZ (qZ (rZ (wZ rg (o_faP td25 rfl rfl (by rw [sz3]; decide) rfl (wZ rg (o_loadB1 (atL (k := 2) rfl) sz3 ag3 rfl rfl (v := .int .i64 a.Root) rfl ?_))))))))))))))))
  refine wZ rg (o_faP td25 rfl rfl (by rw [sz3]; decide) rfl (wZ rg (o_loadB1 (atL (k := 3) rfl) sz3 ag3 rfl rfl (v := .int .i64 b.Root) rfl (wZ rg (o_neq rfl rfl (mvZ (.bool (a.Root != b.Root)) rfl ?_))))))
  refine Wl.guard rfl rfl (fun hb => ?_) (fun hb => ?_)
  · replace h := h.2 hb
    refine wZ rg (o_faP td25 rfl rfl (by rw [sz22]; decide) rfl ?_)
    refine Wl.guardT rfl rfl hb ?_
    refine wZ rg (o_loadB1 (atL (k := 2) rfl) sz22 ag22 rfl rfl (v := eL (AV.int .i64) a.Order) rfl ?_)
    refine Wl.guardT rfl rfl hb ?_
    refine wZ rg (o_faP td25 rfl rfl (by rw [sz22]; decide) rfl ?_)
    refine Wl.guardT rfl rfl hb ?_
    refine wZ rg (o_loadB1 (atL (k := 3) rfl) sz22 ag22 rfl rfl (v := eL (AV.int .i64) b.Order) rfl ?_)
    refine Wl.guardT rfl rfl hb ?_
    refine wZ rg (o_call (us := [eL (AV.int .i64) a.Order, eL (AV.int .i64) b.Order]) rfl (vl' vr (vl' vr (vn))) (base_Ints_ctr h fun r h => ?_))
    refine Wl.guardT rfl rfl hb ?_
    refine wZ rg (o_not rfl (wZ rg (o_pickF rfl hb (v := .bool (!r)) rfl (mvZ (.bool (!r)) rfl ?_))))
    refine Wl.guard rfl rfl (fun hb1 => ?_) (fun hb1 => ?_)
    · replace h := h.2 hb1
      refine wZ rg (o_faP td25 rfl rfl (by rw [sz23]; decide) rfl ?_)
      refine Wl.guardT rfl rfl hb1 ?_
      refine wZ rg (o_loadB1 (atL (k := 2) rfl) sz23 ag23 rfl rfl (v := eL eDNode a.Nodes) rfl ?_)
      refine Wl.guardT rfl rfl hb1 ?_
      refine wZ rg (o_len td23 rfl ?_)
      refine Wl.guardT rfl rfl hb1 ?_
      refine wZ rg (o_faP td25 rfl rfl (by rw [sz23]; decide) rfl ?_)
      refine Wl.guardT rfl rfl hb1 ?_
      refine wZ rg (o_loadB1 (atL (k := 3) rfl) sz23 ag23 rfl rfl (v := eL eDNode b.Nodes) rfl ?_)
      refine Wl.guardT rfl rfl hb1 ?_
      refine wZ rg (o_len td23 rfl ?_)
      refine Wl.guardT rfl rfl hb1 ?_
      refine wZ rg (o_neq rfl rfl (wZ rg (o_pickF rfl hb1 (v := .bool ((a.Nodes.length : Int) != (b.Nodes.length : Int))) rfl (nZ ?_))))
      refine Vc.cond' rfl (fun hb2 => ?_) (fun hb2 => ?_)
      · replace h := h.1 hb2
        refine qZ (rZ (asZ (.bool false) rfl (nZ ?_)))
        refine Vc.ret' ?_
        refine res_tmp (v := .bool false) rfl (res_nil ?_)
        show Gives _ (.bool false) _
        exact gives_out hrg (VW.refl _) (hQ _ h)
      replace h := h.2 hb2
      refine Vc.skip' ?_
      refine qZ (qZ (rZ (wZ rg (o_faP td25 rfl rfl (by rw [sz23]; decide) rfl (wZ rg (o_loadB1 (atL (k := 2) rfl) sz23 ag23 rfl rfl (v := eL eDNode a.Nodes) rfl (wZ rg (o_len td23 rfl (mvZ (.int .i64 0) rfl (nZ ?_))))))))))
      refine Vc.blk ?_
      obtain ⟨I, μ, h0, hI⟩ := h
      refine Vc.loop' (σ := (Int)) (fun y => I y) (fun y => μ y) (fun y => envOf [(2, .ptr rg 2 g1 0 0), (3, .ptr rg 3 g2 0 0), (30, .int .i64 (a.Nodes.length : Int)), (31, .int .i64 y)]) (fun y => stL S rg [(2, .arr 3 [eDiagram a], g1), (3, .arr 3 [eDiagram b], g2)]) 0 (canon (fc vr (fc vr (fc vr (fc vr (fn))))) (sc rfl (sc rfl (sn)))) h0 (fun x h => ?_)
      replace h := hI x h
      show Vc _ _ _ _ (envOf [(2, .ptr rg 2 g1 0 0), (3, .ptr rg 3 g2 0 0), (30, .int .i64 (a.Nodes.length : Int)), (31, .int .i64 x)]) (stL S rg [(2, .arr 3 [eDiagram a], g1), (3, .arr 3 [eDiagram b], g2)])
      refine qZ (rZ (wZ rg (o_lss rfl rfl (nZ (qZ ?_)))))
      refine Vc.cond' rfl (fun hb3 => ?_) (fun hb3 => ?_)
      · replace h := h.1 hb3
        refine Vc.skip' ?_
        refine qZ ?_
        refine Vc.blk ?_
        refine qZ (rZ (mvZ (.int .i64 x) rfl (asZ (.int .i64 x) rfl (nZ (qZ ?_)))))
        have hg := h.1
        replace h := h.2
        have hg1 := h.1
        replace h := h.2
        refine Vc.drawn' mixed rg (fun _ => jcr2) (by kernel_rfl) ?_
        refine dP rfl rfl (o_faP td25 rfl rfl (by rw [sz23]; decide) rfl (dL (E := ([(rg, 2)], [])) rfl rfl (by simp) (cfn) (o_loadB1 (atL (k := 2) rfl) sz23 ag23 rfl rfl (v := eL eDNode a.Nodes) rfl (dP rfl rfl (o_move (v := .int .i64 x) rfl (dP rfl rfl (o_idxL td23 sz134 (by decide) (fun _ => rfl) rfl rfl hg (dP rfl rfl (o_loadIA sz134 (by decide) ag134 rfl rfl (v := eDNode (at' a.Nodes x)) rfl ?_)))))))))
        refine dP rfl rfl (o_faP td25 rfl rfl (by rw [sz23]; decide) rfl (dL (E := ([(rg, 3)], [])) rfl rfl (by simp) (cfa (by simp [apartE]) (cfn)) (o_loadB1 (atL (k := 3) rfl) sz23 ag23 rfl rfl (v := eL eDNode b.Nodes) rfl (dP rfl rfl (o_move (v := .int .i64 x) rfl (dP rfl rfl (o_idxL td23 sz134 (by decide) (fun _ => rfl) rfl rfl hg1 ?_)))))))
        refine dP rfl rfl (o_loadIA sz134 (by decide) ag134 rfl rfl (v := eDNode (at' b.Nodes x)) rfl (dP rfl rfl (o_neqS ksh134 rfl rfl rfl rfl (dN ?_))))
        refine Vc.cond' rfl (fun hb4 => ?_) (fun hb4 => ?_)
        · replace h := h.1 hb4
          refine qZ (rZ (asZ (.bool false) rfl (nZ ?_)))
          refine Vc.ret' ?_
          refine res_tmp (v := .bool false) rfl (res_nil ?_)
          show Gives _ (.bool false) _
          exact gives_out hrg (VW.refl _) (hQ _ h)
        replace h := h.2 hb4
        refine Vc.skip' ?_
        refine rZ ?_
        refine wZ rg (o_addG rfl rfl h.1 ?_)
        replace h := h.2
        refine mvZ (.int .i64 (x + 1)) rfl (nZ ?_)
        exact ⟨(x + 1), (canon (fc vr (fc vr (fc vr (fc vr (fn))))) (sc rfl (sc rfl (sn)))), h⟩
      replace h := h.2 hb3
      refine Vc.exit' (exB_self ?_)
      refine qZ (rZ (asZ (.bool true) rfl (nZ ?_)))
      refine Vc.ret' ?_
      refine res_tmp (v := .bool true) rfl (res_nil ?_)
      show Gives _ (.bool true) _
      exact gives_out hrg (VW.refl _) (hQ _ h)
    replace h := h.1 hb1
    refine Wl.guardF rfl rfl hb1 rfl ?_
    refine Wl.guardF rfl rfl hb1 rfl ?_
    refine Wl.guardF rfl rfl hb1 rfl ?_
    refine Wl.guardF rfl rfl hb1 rfl ?_
    refine Wl.guardF rfl rfl hb1 rfl ?_
    refine Wl.guardF rfl rfl hb1 rfl ?_
    refine wZ rg (o_pickT rfl hb1 (v := .bool true) rfl (nZ ?_))
    refine Vc.cond' rfl (fun _ => ?_) (fun hb => Bool.noConfusion hb)
    refine qZ (rZ (asZ (.bool false) rfl (nZ ?_)))
    refine Vc.ret' ?_
    refine res_tmp (v := .bool false) rfl (res_nil ?_)
    show Gives _ (.bool false) _
    exact gives_out hrg (VW.refl _) (hQ _ h)
  replace h := h.1 hb
  refine Wl.guardF rfl rfl hb rfl ?_
  refine Wl.guardF rfl rfl hb rfl ?_
  refine Wl.guardF rfl rfl hb rfl ?_
  refine Wl.guardF rfl rfl hb rfl ?_
  refine Wl.guardF rfl rfl hb rfl ?_
  refine wZ rg (o_pickT rfl hb (v := .bool true) rfl (mvZ (.bool true) rfl ?_))
  refine Wl.guardF rfl rfl rfl rfl ?_
  refine Wl.guardF rfl rfl rfl rfl ?_
  refine Wl.guardF rfl rfl rfl rfl ?_
  refine Wl.guardF rfl rfl rfl rfl ?_
  refine Wl.guardF rfl rfl rfl rfl ?_
  refine Wl.guardF rfl rfl rfl rfl ?_
  refine Wl.guardF rfl rfl rfl rfl ?_
  refine wZ rg (o_pickT rfl rfl (v := .bool true) rfl (nZ ?_))
  refine Vc.cond' rfl (fun _ => ?_) (fun hb => Bool.noConfusion hb)
  refine qZ (rZ (asZ (.bool false) rfl (nZ ?_)))
  refine Vc.ret' ?_
  refine res_tmp (v := .bool false) rfl (res_nil ?_)
  show Gives _ (.bool false) _
  exact gives_out hrg (VW.refl _) (hQ _ h)
end Go.Proofs.Ytllegjdggcmgaaa
/- Walks of functions. Conditions: none. -/
namespace Go.Proofs.Ytllegjdggcmgaaa
open Go.Gg
set_option maxRecDepth 100000
theorem ref08_node_ctr {f : GFormula} {i : Int} {Q : Int → Prop} {S : St} {R : AV → St → Prop} (h : ref08_node_W f i Q) (hQ : ∀ r1, Q r1 → R (AV.int .i64 r1) S) :
    Ctr Try.prog 173 [eFormula f, AV.int .i64 i] S R := by
  unfold ref08_node_W at h
  refine enterT Try.func173 rfl Try.ntmps173 Try.results173 (by kernel_rfl) (fun rg hrg => ?_)
  refine qZ (rZ (wZ rg (o_box (v := eFormula f) rfl rfl (kk := 3) rfl (by decide) (fun g1 => (asZ (.int .i64 0) rfl (nZ (qZ (rZ (wZ rg (o_faP td68 rfl rfl (by rw [sz66]; decide) rfl (wZ rg (o_loadB1 (atL (k := 2) rfl) sz66 ag66 rfl rfl (v := eL eNode f.Nodes) rfl (mvZ (.int .i64 i) rfl (wZ rg (o_idxL td66 sz154 (by decide) (fun _ => rfl) rfl rfl h.1 ?_)))))))))))))))
  replace h := h.2
  refine wZ rg (o_loadIA sz154 (by decide) ag154 rfl rfl (v := eNode (at' f.Nodes i)) rfl (wZ rg (o_alloc zav154 ok154 (kk := 3) rfl (fun g2 => (wZ rg (o_storeB (atL (k := 5) rfl) sz154 (by decide) rfl (w := eNode (at' f.Nodes i)) rfl rfl rfl (v := eNode (at' f.Nodes i)) rfl setL (nZ (qZ (rZ (asZ (.int .i64 1) rfl (asZ (.int .i64 16) rfl (nZ ?_))))))))))))
  obtain ⟨J, h, hJ⟩ := h
  refine Vc.join' (σ := ((Int × Int) × (Nat × Nat))) (fun y => J y.1) (fun y => envOf [(1, .int .i64 i), (2, .ptr rg 2 y.2.1 0 0), (5, .ptr rg 5 y.2.2 0 0), (6, .int .i64 y.1.1), (7, .int .i64 y.1.2)]) (fun y => stL S rg [(2, .arr 3 [eFormula f], y.2.1), (5, .arr 3 [eNode (at' f.Nodes i)], y.2.2)]) (fun y h => ?_) ?_
  · obtain ⟨⟨least, most⟩, ⟨g3, g4⟩⟩ := y
    replace h := hJ (least, most) h
    show Vc _ _ _ _ (envOf [(1, .int .i64 i), (2, .ptr rg 2 g3 0 0), (5, .ptr rg 5 g4 0 0), (6, .int .i64 least), (7, .int .i64 most)]) (stL S rg [(2, .arr 3 [eFormula f], g3), (5, .arr 3 [eNode (at' f.Nodes i)], g4)])
    refine qZ (qZ (rZ (wZ rg (o_faP td154 rfl rfl (by rw [sz22]; decide) rfl (wZ rg (o_loadB1 (atL (k := 5) rfl) sz22 ag22 rfl rfl (v := eL (AV.int .i64) ((at' f.Nodes i).Args)) rfl (wZ rg (o_len td22 rfl (mvZ (.int .i64 least) rfl (wZ rg (o_lss rfl rfl (mvZ (.bool (decide ((((at' f.Nodes i).Args).length : Int) < least))) rfl ?_))))))))))))
    refine Wl.guard rfl rfl (fun hb => ?_) (fun hb => ?_)
    · replace h := h.2 hb
      refine wZ rg (o_faP td154 rfl rfl (by rw [sz22]; decide) rfl ?_)
      refine Wl.guardT rfl rfl hb ?_
      refine wZ rg (o_loadB1 (atL (k := 5) rfl) sz22 ag22 rfl rfl (v := eL (AV.int .i64) ((at' f.Nodes i).Args)) rfl ?_)
      refine Wl.guardT rfl rfl hb ?_
      refine wZ rg (o_len td22 rfl ?_)
      refine Wl.guardT rfl rfl hb ?_
      refine mvZ (.int .i64 most) rfl ?_
      refine Wl.guardT rfl rfl hb ?_
      refine wZ rg (o_gtr rfl rfl (wZ rg (o_pickF rfl hb (v := .bool (decide (most < (((at' f.Nodes i).Args).length : Int)))) rfl (nZ ?_))))
      refine Vc.cond' rfl (fun hb1 => ?_) (fun hb1 => ?_)
      · replace h := h.1 hb1
        refine qZ (rZ (asZ (.int .i64 11) rfl (nZ ?_)))
        refine Vc.ret' ?_
        refine res_tmp (v := .int .i64 11) rfl (res_nil ?_)
        show Gives _ (.int .i64 11) _
        exact gives_out hrg (VW.refl _) (hQ _ h)
      replace h := h.2 hb1
      refine Vc.skip' ?_
      refine qZ (qZ (rZ (wZ rg (o_faP td154 rfl rfl (by rw [sz22]; decide) rfl (wZ rg (o_loadB1 (atL (k := 5) rfl) sz22 ag22 rfl rfl (v := eL (AV.int .i64) ((at' f.Nodes i).Args)) rfl (wZ rg (o_len td22 rfl (mvZ (.int .i64 0) rfl (nZ ?_))))))))))
      refine Vc.blk ?_
      obtain ⟨I, μ, h0, hI⟩ := h
      refine Vc.loop' (σ := (Int)) (fun y => I y) (fun y => μ y) (fun y => envOf [(1, .int .i64 i), (2, .ptr rg 2 g3 0 0), (5, .ptr rg 5 g4 0 0), (39, eL (AV.int .i64) ((at' f.Nodes i).Args)), (40, .int .i64 (((at' f.Nodes i).Args).length : Int)), (41, .int .i64 y)]) (fun y => stL S rg [(2, .arr 3 [eFormula f], g3), (5, .arr 3 [eNode (at' f.Nodes i)], g4)]) 0 (canon (fc vr (fc vr (fc vr (fc vr (fc vr (fc vr (fn))))))) (sc rfl (sc rfl (sn)))) h0 (fun x h => ?_)
      replace h := hI x h
      show Vc _ _ _ _ (envOf [(1, .int .i64 i), (2, .ptr rg 2 g3 0 0), (5, .ptr rg 5 g4 0 0), (39, eL (AV.int .i64) ((at' f.Nodes i).Args)), (40, .int .i64 (((at' f.Nodes i).Args).length : Int)), (41, .int .i64 x)]) (stL S rg [(2, .arr 3 [eFormula f], g3), (5, .arr 3 [eNode (at' f.Nodes i)], g4)])
      refine qZ (rZ (wZ rg (o_lss rfl rfl (nZ (qZ ?_)))))
      refine Vc.cond' rfl (fun hb2 => ?_) (fun hb2 => ?_)
      · replace h := h.1 hb2
        refine Vc.skip' ?_
        refine qZ ?_
        refine Vc.blk ?_
        refine qZ (rZ (wZ rg (o_idxL td22 sz3 (by decide) (fun _ => rfl) rfl rfl h.1 ?_)))
        replace h := h.2
        refine wZ rg (o_loadI1 sz3 ag3 rfl rfl (v := .int .i64 (at' ((at' f.Nodes i).Args) x)) rfl (asZ (.int .i64 (at' ((at' f.Nodes i).Args) x)) rfl (nZ (qZ (rZ (mvZ (.int .i64 (at' ((at' f.Nodes i).Args) x)) rfl (wZ rg (o_lss rfl rfl (mvZ (.bool (decide ((at' ((at' f.Nodes i).Args) x) < 0))) rfl ?_)))))))))
        refine Wl.guard rfl rfl (fun hb3 => ?_) (fun hb3 => ?_)
        · replace h := h.2 hb3
          refine mvZ (.int .i64 (at' ((at' f.Nodes i).Args) x)) rfl ?_
          refine Wl.guardT rfl rfl hb3 ?_
          refine wZ rg (o_faP td68 rfl rfl (by rw [sz3]; decide) rfl ?_)
          refine Wl.guardT rfl rfl hb3 ?_
          refine wZ rg (o_loadB1 (atL (k := 2) rfl) sz3 ag3 rfl rfl (v := .int .i64 f.Vars) rfl ?_)
          refine Wl.guardT rfl rfl hb3 ?_
          refine mvZ (.int .i64 i) rfl ?_
          refine Wl.guardT rfl rfl hb3 ?_
          refine wZ rg (o_addG rfl rfl h.1 ?_)
          replace h := h.2
          refine Wl.guardT rfl rfl hb3 ?_
          refine wZ rg (o_geq rfl rfl (wZ rg (o_pickF rfl hb3 (v := .bool (decide ((f.Vars + i) ≤ (at' ((at' f.Nodes i).Args) x)))) rfl (nZ ?_))))
          refine Vc.cond' rfl (fun hb4 => ?_) (fun hb4 => ?_)
          · replace h := h.1 hb4
            refine qZ (rZ (asZ (.int .i64 10) rfl (nZ ?_)))
            refine Vc.ret' ?_
            refine res_tmp (v := .int .i64 10) rfl (res_nil ?_)
            show Gives _ (.int .i64 10) _
            exact gives_out hrg (VW.refl _) (hQ _ h)
          replace h := h.2 hb4
          refine Vc.skip' ?_
          refine rZ ?_
          refine wZ rg (o_addG rfl rfl h.1 ?_)
          replace h := h.2
          refine mvZ (.int .i64 (x + 1)) rfl (nZ ?_)
          exact ⟨(x + 1), (canon (fc vr (fc vr (fc vr (fc vr (fc vr (fc vr (fn))))))) (sc rfl (sc rfl (sn)))), h⟩
        replace h := h.1 hb3
        refine Wl.guardF rfl rfl hb3 rfl ?_
        refine Wl.guardF rfl rfl hb3 rfl ?_
        refine Wl.guardF rfl rfl hb3 rfl ?_
        refine Wl.guardF rfl rfl hb3 rfl ?_
        refine Wl.guardF rfl rfl hb3 rfl ?_
        refine wZ rg (o_pickT rfl hb3 (v := .bool true) rfl (nZ ?_))
        refine Vc.cond' rfl (fun _ => ?_) (fun hb => Bool.noConfusion hb)
        refine qZ (rZ (asZ (.int .i64 10) rfl (nZ ?_)))
        refine Vc.ret' ?_
        refine res_tmp (v := .int .i64 10) rfl (res_nil ?_)
        show Gives _ (.int .i64 10) _
        exact gives_out hrg (VW.refl _) (hQ _ h)
      replace h := h.2 hb2
      refine Vc.exit' (exB_self ?_)
      refine qZ (qZ (rZ (wZ rg (o_faP td154 rfl rfl (by rw [sz3]; decide) rfl (wZ rg (o_loadB1 (atL (k := 5) rfl) sz3 ag3 rfl rfl (v := .int .i64 ((at' f.Nodes i).Kind)) rfl (nZ ?_)))))))
      refine Vc.blk ?_
      refine qZ (rZ (wZ rg (o_eql rfl rfl (asZ (.bool ((at' f.Nodes i).Kind == 0)) rfl (nZ ?_)))))
      refine Vc.cond' rfl (fun hb5 => ?_) (fun hb5 => ?_)
      · replace h := h.1 hb5
        refine qZ (rZ (wZ rg (o_faP td154 rfl rfl (by rw [sz3]; decide) rfl (wZ rg (o_loadB1 (atL (k := 5) rfl) sz3 ag3 rfl rfl (v := .int .i64 ((at' f.Nodes i).K)) rfl (wZ rg (o_neq rfl rfl (mvZ (.bool ((at' f.Nodes i).K != 0)) rfl ?_))))))))
        refine Wl.guard rfl rfl (fun hb6 => ?_) (fun hb6 => ?_)
        · replace h := h.1 hb6
          refine wZ rg (o_faP td154 rfl rfl (by rw [sz3]; decide) rfl ?_)
          refine Wl.guardT rfl rfl hb6 ?_
          refine wZ rg (o_loadB1 (atL (k := 5) rfl) sz3 ag3 rfl rfl (v := .int .i64 ((at' f.Nodes i).K)) rfl ?_)
          refine Wl.guardT rfl rfl hb6 ?_
          refine wZ rg (o_neq rfl rfl (wZ rg (o_pickT rfl hb6 (v := .bool ((at' f.Nodes i).K != 1)) rfl (nZ ?_))))
          refine Vc.cond' rfl (fun hb7 => ?_) (fun hb7 => ?_)
          · replace h := h.1 hb7
            refine qZ (rZ (asZ (.int .i64 3) rfl (nZ ?_)))
            refine Vc.ret' ?_
            refine res_tmp (v := .int .i64 3) rfl (res_nil ?_)
            show Gives _ (.int .i64 3) _
            exact gives_out hrg (VW.refl _) (hQ _ h)
          replace h := h.2 hb7
          refine Vc.skip' ?_
          refine qZ (rZ (asZ (.int .i64 0) rfl (nZ ?_)))
          refine Vc.ret' ?_
          refine res_tmp (v := .int .i64 0) rfl (res_nil ?_)
          show Gives _ (.int .i64 0) _
          exact gives_out hrg (VW.refl _) (hQ _ h)
        replace h := h.2 hb6
        refine Wl.guardF rfl rfl hb6 rfl ?_
        refine Wl.guardF rfl rfl hb6 rfl ?_
        refine wZ rg (o_pickF rfl hb6 (v := .bool false) rfl (nZ ?_))
        refine Vc.cond' rfl (fun hb => Bool.noConfusion hb) (fun _ => ?_)
        refine Vc.skip' ?_
        refine qZ (rZ (asZ (.int .i64 0) rfl (nZ ?_)))
        refine Vc.ret' ?_
        refine res_tmp (v := .int .i64 0) rfl (res_nil ?_)
        show Gives _ (.int .i64 0) _
        exact gives_out hrg (VW.refl _) (hQ _ h)
      replace h := h.2 hb5
      refine qZ (rZ (wZ rg (o_eql rfl rfl (asZ (.bool ((at' f.Nodes i).Kind == 4)) rfl (nZ ?_)))))
      refine Vc.cond' rfl (fun hb8 => ?_) (fun hb8 => ?_)
      · replace h := h.1 hb8
        refine qZ (rZ (wZ rg (o_faP td154 rfl rfl (by rw [sz3]; decide) rfl (wZ rg (o_loadB1 (atL (k := 5) rfl) sz3 ag3 rfl rfl (v := .int .i64 ((at' f.Nodes i).K)) rfl (wZ rg (o_lss rfl rfl (mvZ (.bool (decide ((at' f.Nodes i).K < 1))) rfl ?_))))))))
        refine Wl.guard rfl rfl (fun hb9 => ?_) (fun hb9 => ?_)
        · replace h := h.2 hb9
          refine wZ rg (o_faP td154 rfl rfl (by rw [sz3]; decide) rfl ?_)
          refine Wl.guardT rfl rfl hb9 ?_
          refine wZ rg (o_loadB1 (atL (k := 5) rfl) sz3 ag3 rfl rfl (v := .int .i64 ((at' f.Nodes i).K)) rfl ?_)
          refine Wl.guardT rfl rfl hb9 ?_
          refine wZ rg (o_faP td154 rfl rfl (by rw [sz22]; decide) rfl ?_)
          refine Wl.guardT rfl rfl hb9 ?_
          refine wZ rg (o_loadB1 (atL (k := 5) rfl) sz22 ag22 rfl rfl (v := eL (AV.int .i64) ((at' f.Nodes i).Args)) rfl ?_)
          refine Wl.guardT rfl rfl hb9 ?_
          refine wZ rg (o_len td22 rfl ?_)
          refine Wl.guardT rfl rfl hb9 ?_
          refine wZ rg (o_gtr rfl rfl (wZ rg (o_pickF rfl hb9 (v := .bool (decide ((((at' f.Nodes i).Args).length : Int) < (at' f.Nodes i).K))) rfl (nZ ?_))))
          refine Vc.cond' rfl (fun hb10 => ?_) (fun hb10 => ?_)
          · replace h := h.1 hb10
            refine qZ (rZ (asZ (.int .i64 3) rfl (nZ ?_)))
            refine Vc.ret' ?_
            refine res_tmp (v := .int .i64 3) rfl (res_nil ?_)
            show Gives _ (.int .i64 3) _
            exact gives_out hrg (VW.refl _) (hQ _ h)
          replace h := h.2 hb10
          refine Vc.skip' ?_
          refine qZ (rZ (asZ (.int .i64 0) rfl (nZ ?_)))
          refine Vc.ret' ?_
          refine res_tmp (v := .int .i64 0) rfl (res_nil ?_)
          show Gives _ (.int .i64 0) _
          exact gives_out hrg (VW.refl _) (hQ _ h)
        replace h := h.1 hb9
        refine Wl.guardF rfl rfl hb9 rfl ?_
        refine Wl.guardF rfl rfl hb9 rfl ?_
        refine Wl.guardF rfl rfl hb9 rfl ?_
        refine Wl.guardF rfl rfl hb9 rfl ?_
        refine Wl.guardF rfl rfl hb9 rfl ?_
        refine wZ rg (o_pickT rfl hb9 (v := .bool true) rfl (nZ ?_))
        refine Vc.cond' rfl (fun _ => ?_) (fun hb => Bool.noConfusion hb)
        refine qZ (rZ (asZ (.int .i64 3) rfl (nZ ?_)))
        refine Vc.ret' ?_
        refine res_tmp (v := .int .i64 3) rfl (res_nil ?_)
        show Gives _ (.int .i64 3) _
        exact gives_out hrg (VW.refl _) (hQ _ h)
      replace h := h.2 hb8
      refine qZ (rZ (wZ rg (o_faP td154 rfl rfl (by rw [sz3]; decide) rfl (wZ rg (o_loadB1 (atL (k := 5) rfl) sz3 ag3 rfl rfl (v := .int .i64 ((at' f.Nodes i).K)) rfl (wZ rg (o_neq rfl rfl (nZ ?_))))))))
      refine Vc.cond' rfl (fun hb11 => ?_) (fun hb11 => ?_)
      · replace h := h.1 hb11
        refine qZ (rZ (asZ (.int .i64 2) rfl (nZ ?_)))
        refine Vc.ret' ?_
        refine res_tmp (v := .int .i64 2) rfl (res_nil ?_)
        show Gives _ (.int .i64 2) _
        exact gives_out hrg (VW.refl _) (hQ _ h)
      replace h := h.2 hb11
      refine Vc.skip' ?_
      refine qZ (rZ (asZ (.int .i64 0) rfl (nZ ?_)))
      refine Vc.ret' ?_
      refine res_tmp (v := .int .i64 0) rfl (res_nil ?_)
      show Gives _ (.int .i64 0) _
      exact gives_out hrg (VW.refl _) (hQ _ h)
    replace h := h.1 hb
    refine Wl.guardF rfl rfl hb rfl ?_
    refine Wl.guardF rfl rfl hb rfl ?_
    refine Wl.guardF rfl rfl hb rfl ?_
    refine Wl.guardF rfl rfl hb rfl ?_
    refine wZ rg (o_pickT rfl hb (v := .bool true) rfl (nZ ?_))
    refine Vc.cond' rfl (fun _ => ?_) (fun hb => Bool.noConfusion hb)
    refine qZ (rZ (asZ (.int .i64 11) rfl (nZ ?_)))
    refine Vc.ret' ?_
    refine res_tmp (v := .int .i64 11) rfl (res_nil ?_)
    show Gives _ (.int .i64 11) _
    exact gives_out hrg (VW.refl _) (hQ _ h)
  refine qZ (rZ (wZ rg (o_faP td154 rfl rfl (by rw [sz3]; decide) rfl (wZ rg (o_loadB1 (atL (k := 5) rfl) sz3 ag3 rfl rfl (v := .int .i64 ((at' f.Nodes i).Kind)) rfl (nZ ?_))))))
  refine Vc.blk ?_
  refine qZ (rZ (wZ rg (o_eql rfl rfl (asZ (.bool ((at' f.Nodes i).Kind == 0)) rfl (nZ ?_)))))
  refine Vc.cond' rfl (fun hb12 => ?_) (fun hb12 => ?_)
  · replace h := h.1 hb12
    refine rZ ?_
    refine asZ (.int .i64 0) rfl (asZ (.int .i64 0) rfl (nZ ?_))
    exact ⟨((0, 0), (g1, g2)), (canon (fc vr (fc vr (fc vr (fc vr (fc vr (fn)))))) (sc rfl (sc rfl (sn)))), h⟩
  replace h := h.2 hb12
  refine qZ (rZ (wZ rg (o_eql rfl rfl (asZ (.bool ((at' f.Nodes i).Kind == 1)) rfl (nZ ?_)))))
  refine Vc.cond' rfl (fun hb13 => ?_) (fun hb13 => ?_)
  · replace h := h.1 hb13
    refine rZ ?_
    refine asZ (.int .i64 1) rfl (nZ ?_)
    exact ⟨((1, 1), (g1, g2)), (canon (fc vr (fc vr (fc vr (fc vr (fc vr (fn)))))) (sc rfl (sc rfl (sn)))), h⟩
  replace h := h.2 hb13
  refine qZ (qZ (rZ (wZ rg (o_eql rfl rfl (asZ (.bool ((at' f.Nodes i).Kind == 2)) rfl (nZ ?_))))))
  refine Vc.cond' rfl (fun hb14 => ?_) (fun hb14 => ?_)
  · replace h := h.1 hb14
    refine Vc.skip' ?_
    refine Vc.condT rfl hb14 ?_
    refine Vc.skip' ?_
    exact ⟨((1, 16), (g1, g2)), (canon (fc vr (fc vr (fc vr (fc vr (fc vr (fn)))))) (sc rfl (sc rfl (sn)))), h⟩
  replace h := h.2 hb14
  refine qZ (rZ (wZ rg (o_eql rfl rfl (asZ (.bool ((at' f.Nodes i).Kind == 3)) rfl (nZ ?_)))))
  refine Vc.cond' rfl (fun hb15 => ?_) (fun hb15 => ?_)
  · replace h := h.1 hb15
    refine Vc.skip' ?_
    refine Vc.condT rfl hb15 ?_
    refine Vc.skip' ?_
    exact ⟨((1, 16), (g1, g2)), (canon (fc vr (fc vr (fc vr (fc vr (fc vr (fn)))))) (sc rfl (sc rfl (sn)))), h⟩
  replace h := h.2 hb15
  refine qZ (rZ (wZ rg (o_eql rfl rfl (asZ (.bool ((at' f.Nodes i).Kind == 4)) rfl (nZ ?_)))))
  refine Vc.cond' rfl (fun hb16 => ?_) (fun hb16 => ?_)
  · replace h := h.1 hb16
    refine Vc.skip' ?_
    refine Vc.condT rfl hb16 ?_
    refine Vc.skip' ?_
    exact ⟨((1, 16), (g1, g2)), (canon (fc vr (fc vr (fc vr (fc vr (fc vr (fn)))))) (sc rfl (sc rfl (sn)))), h⟩
  replace h := h.2 hb16
  refine rZ ?_
  refine wZ rg (o_eql rfl rfl (asZ (.bool ((at' f.Nodes i).Kind == 5)) rfl (nZ ?_)))
  refine Vc.cond' rfl (fun hb17 => ?_) (fun hb17 => ?_)
  · replace h := h.1 hb17
    refine Vc.skip' ?_
    exact ⟨((1, 16), (g1, g2)), (canon (fc vr (fc vr (fc vr (fc vr (fc vr (fn)))))) (sc rfl (sc rfl (sn)))), h⟩
  replace h := h.2 hb17
  refine qZ (rZ (asZ (.int .i64 7) rfl (nZ ?_)))
  refine Vc.ret' ?_
  refine res_tmp (v := .int .i64 7) rfl (res_nil ?_)
  show Gives _ (.int .i64 7) _
  exact gives_out hrg (VW.refl _) (hQ _ h)
theorem ref08_Valid_ctr {f : GFormula} {arg : Int} {Q : Bool → Prop} {S : St} {R : AV → St → Prop} (h : ref08_Valid_W f arg Q) (hQ : ∀ r1, Q r1 → R (AV.bool r1) S) :
    Ctr Try.prog 174 [eFormula f, AV.int .i64 arg] S R := by
  unfold ref08_Valid_W at h
  refine enterT Try.func174 rfl Try.ntmps174 Try.results174 (by kernel_rfl) (fun rg hrg => ?_)
  refine qZ (rZ (wZ rg (o_box (v := eFormula f) rfl rfl (kk := 3) rfl (by decide) (fun g1 => (asZ (.bool false) rfl (nZ (qZ (rZ (wZ rg (o_faP td68 rfl rfl (by rw [sz3]; decide) rfl (wZ rg (o_loadB1 (atL (k := 2) rfl) sz3 ag3 rfl rfl (v := .int .i64 f.Vars) rfl (wZ rg (o_geq rfl rfl (mvZ (.bool (decide (0 ≤ f.Vars))) rfl ?_)))))))))))))))
  refine Wl.guard rfl rfl (fun hb => ?_) (fun hb => ?_)
  · replace h := h.1 hb
    refine mvZ (.int .i64 arg) rfl ?_
    refine Wl.guardT rfl rfl hb ?_
    refine wZ rg (o_geq rfl rfl (wZ rg (o_pickT rfl hb (v := .bool (decide (0 ≤ arg))) rfl (mvZ (.bool (decide (0 ≤ arg))) rfl ?_))))
    refine Wl.guard rfl rfl (fun hb1 => ?_) (fun hb1 => ?_)
    · replace h := h.1 hb1
      refine mvZ (.int .i64 arg) rfl ?_
      refine Wl.guardT rfl rfl hb1 ?_
      refine wZ rg (o_faP td68 rfl rfl (by rw [sz3]; decide) rfl ?_)
      refine Wl.guardT rfl rfl hb1 ?_
      refine wZ rg (o_loadB1 (atL (k := 2) rfl) sz3 ag3 rfl rfl (v := .int .i64 f.Vars) rfl ?_)
      refine Wl.guardT rfl rfl hb1 ?_
      refine wZ rg (o_lss rfl rfl ?_)
      refine Wl.guardT rfl rfl hb1 ?_
      refine mvZ (.bool (decide (arg < f.Vars))) rfl ?_
      refine Wl.guard rfl rfl (fun hb2 => ?_) (fun hb2 => ?_)
      · replace h := h.2 hb2
        refine mvZ (.int .i64 arg) rfl ?_
        refine Wl.guardT rfl rfl hb2 ?_
        refine wZ rg (o_faP td68 rfl rfl (by rw [sz3]; decide) rfl ?_)
        refine Wl.guardT rfl rfl hb2 ?_
        refine wZ rg (o_loadB1 (atL (k := 2) rfl) sz3 ag3 rfl rfl (v := .int .i64 f.Vars) rfl ?_)
        refine Wl.guardT rfl rfl hb2 ?_
        refine wZ rg (o_subG rfl rfl h.1 ?_)
        replace h := h.2
        refine Wl.guardT rfl rfl hb2 ?_
        refine wZ rg (o_faP td68 rfl rfl (by rw [sz66]; decide) rfl ?_)
        refine Wl.guardT rfl rfl hb2 ?_
        refine wZ rg (o_loadB1 (atL (k := 2) rfl) sz66 ag66 rfl rfl (v := eL eNode f.Nodes) rfl ?_)
        refine Wl.guardT rfl rfl hb2 ?_
        refine wZ rg (o_len td66 rfl ?_)
        refine Wl.guardT rfl rfl hb2 ?_
        refine wZ rg (o_lss rfl rfl ?_)
        refine Wl.guardT rfl rfl hb1 ?_
        refine wZ rg (o_pickF rfl hb2 (v := .bool (decide ((arg - f.Vars) < (f.Nodes.length : Int)))) rfl (wZ rg (o_pickT rfl hb1 (v := .bool (decide ((arg - f.Vars) < (f.Nodes.length : Int)))) rfl (asZ (.bool (decide ((arg - f.Vars) < (f.Nodes.length : Int)))) rfl (nZ ?_)))))
        refine Vc.ret' ?_
        refine res_tmp (v := .bool (decide ((arg - f.Vars) < (f.Nodes.length : Int)))) rfl (res_nil ?_)
        show Gives _ (.bool (decide ((arg - f.Vars) < (f.Nodes.length : Int)))) _
        exact gives_out hrg (VW.refl _) (hQ _ h)
      replace h := h.1 hb2
      refine Wl.guardF rfl rfl hb2 rfl ?_
      refine Wl.guardF rfl rfl hb2 rfl ?_
      refine Wl.guardF rfl rfl hb2 rfl ?_
      refine Wl.guardF rfl rfl hb2 rfl ?_
      refine Wl.guardF rfl rfl hb2 rfl ?_
      refine Wl.guardF rfl rfl hb2 rfl ?_
      refine Wl.guardF rfl rfl hb2 rfl ?_
      refine Wl.guardT rfl rfl hb1 ?_
      refine wZ rg (o_pickT rfl hb2 (v := .bool true) rfl (wZ rg (o_pickT rfl hb1 (v := .bool true) rfl (asZ (.bool true) rfl (nZ ?_)))))
      refine Vc.ret' ?_
      refine res_tmp (v := .bool true) rfl (res_nil ?_)
      show Gives _ (.bool true) _
      exact gives_out hrg (VW.refl _) (hQ _ h)
    replace h := h.2 hb1
    refine Wl.guardF rfl rfl hb1 rfl ?_
    refine Wl.guardF rfl rfl hb1 rfl ?_
    refine Wl.guardF rfl rfl hb1 rfl ?_
    refine Wl.guardF rfl rfl hb1 rfl ?_
    refine Wl.guardU rfl rfl ?_
    refine Wl.guardU rfl rfl ?_
    refine Wl.guardU rfl rfl ?_
    refine Wl.guardU rfl rfl ?_
    refine Wl.guardU rfl rfl ?_
    refine Wl.guardU rfl rfl ?_
    refine Wl.guardU rfl rfl ?_
    refine Wl.guardU rfl rfl ?_
    refine Wl.guardF rfl rfl hb1 rfl ?_
    refine wZ rg (o_pickF rfl hb1 (v := .bool false) rfl (asZ (.bool false) rfl (nZ ?_)))
    refine Vc.ret' ?_
    refine res_tmp (v := .bool false) rfl (res_nil ?_)
    show Gives _ (.bool false) _
    exact gives_out hrg (VW.refl _) (hQ _ h)
  replace h := h.2 hb
  refine Wl.guardF rfl rfl hb rfl ?_
  refine wZ rg (o_pickF rfl hb (v := .bool false) rfl (mvZ (.bool false) rfl ?_))
  refine Wl.guardF rfl rfl rfl rfl ?_
  refine Wl.guardF rfl rfl rfl rfl ?_
  refine Wl.guardF rfl rfl rfl rfl ?_
  refine Wl.guardF rfl rfl rfl rfl ?_
  refine Wl.guardF rfl rfl rfl rfl ?_
  refine Wl.guardU rfl rfl ?_
  refine Wl.guardU rfl rfl ?_
  refine Wl.guardU rfl rfl ?_
  refine Wl.guardU rfl rfl ?_
  refine Wl.guardU rfl rfl ?_
  refine Wl.guardU rfl rfl ?_
  refine Wl.guardU rfl rfl ?_
  refine Wl.guardU rfl rfl ?_
  refine Wl.guardF rfl rfl rfl rfl ?_
  refine wZ rg (o_pickF rfl rfl (v := .bool false) rfl (asZ (.bool false) rfl (nZ ?_)))
  refine Vc.ret' ?_
  refine res_tmp (v := .bool false) rfl (res_nil ?_)
  show Gives _ (.bool false) _
  exact gives_out hrg (VW.refl _) (hQ _ h)
theorem ref08_Check_ctr {f : GFormula} {Q : Int → Prop} {S : St} {R : AV → St → Prop} (h : ref08_Check_W f Q) (hQ : ∀ r1, Q r1 → R (AV.int .i64 r1) S) :
    Ctr Try.prog 117 [eFormula f] S R := by
  unfold ref08_Check_W at h
  refine enterT Try.func117 rfl Try.ntmps117 Try.results117 (by kernel_rfl) (fun rg hrg => ?_)
  refine qZ (rZ (wZ rg (o_box (v := eFormula f) rfl rfl (kk := 3) rfl (by decide) (fun g1 => (asZ (.int .i64 0) rfl (nZ (qZ (qZ (rZ (wZ rg (o_faP td68 rfl rfl (by rw [sz3]; decide) rfl (wZ rg (o_loadB1 (atL (k := 1) rfl) sz3 ag3 rfl rfl (v := .int .i64 f.Vars) rfl (wZ rg (o_lss rfl rfl (mvZ (.bool (decide (f.Vars < 0))) rfl ?_))))))))))))))))
  refine Wl.guard rfl rfl (fun hb => ?_) (fun hb => ?_)
  · replace h := h.2 hb
    refine wZ rg (o_faP td68 rfl rfl (by rw [sz3]; decide) rfl ?_)
    refine Wl.guardT rfl rfl hb ?_
    refine wZ rg (o_loadB1 (atL (k := 1) rfl) sz3 ag3 rfl rfl (v := .int .i64 f.Vars) rfl ?_)
    refine Wl.guardT rfl rfl hb ?_
    refine wZ rg (o_gtr rfl rfl (wZ rg (o_pickF rfl hb (v := .bool (decide (24 < f.Vars))) rfl (nZ ?_))))
    refine Vc.cond' rfl (fun hb1 => ?_) (fun hb1 => ?_)
    · replace h := h.1 hb1
      refine qZ (rZ (asZ (.int .i64 3) rfl (nZ ?_)))
      refine Vc.ret' ?_
      refine res_tmp (v := .int .i64 3) rfl (res_nil ?_)
      show Gives _ (.int .i64 3) _
      exact gives_out hrg (VW.refl _) (hQ _ h)
    replace h := h.2 hb1
    refine Vc.skip' ?_
    refine qZ (qZ (rZ (wZ rg (o_faP td68 rfl rfl (by rw [sz66]; decide) rfl (wZ rg (o_loadB1 (atL (k := 1) rfl) sz66 ag66 rfl rfl (v := eL eNode f.Nodes) rfl (wZ rg (o_len td66 rfl (wZ rg (o_gtr rfl rfl (nZ ?_)))))))))))
    refine Vc.cond' rfl (fun hb2 => ?_) (fun hb2 => ?_)
    · replace h := h.1 hb2
      refine qZ (rZ (asZ (.int .i64 4) rfl (nZ ?_)))
      refine Vc.ret' ?_
      refine res_tmp (v := .int .i64 4) rfl (res_nil ?_)
      show Gives _ (.int .i64 4) _
      exact gives_out hrg (VW.refl _) (hQ _ h)
    replace h := h.2 hb2
    refine Vc.skip' ?_
    refine qZ (qZ (rZ (wZ rg (o_faP td68 rfl rfl (by rw [sz66]; decide) rfl (wZ rg (o_loadB1 (atL (k := 1) rfl) sz66 ag66 rfl rfl (v := eL eNode f.Nodes) rfl (wZ rg (o_len td66 rfl (mvZ (.int .i64 0) rfl (nZ ?_))))))))))
    refine Vc.blk ?_
    obtain ⟨I, μ, h0, hI⟩ := h
    refine Vc.loop' (σ := (Int)) (fun y => I y) (fun y => μ y) (fun y => envOf [(1, .ptr rg 1 g1 0 0), (19, .int .i64 (f.Nodes.length : Int)), (20, .int .i64 y)]) (fun y => stL S rg [(1, .arr 3 [eFormula f], g1)]) 0 (canon (fc vr (fc vr (fc vr (fn)))) (sc rfl (sn))) h0 (fun x h => ?_)
    replace h := hI x h
    show Vc _ _ _ _ (envOf [(1, .ptr rg 1 g1 0 0), (19, .int .i64 (f.Nodes.length : Int)), (20, .int .i64 x)]) (stL S rg [(1, .arr 3 [eFormula f], g1)])
    refine qZ (rZ (wZ rg (o_lss rfl rfl (nZ (qZ ?_)))))
    refine Vc.cond' rfl (fun hb3 => ?_) (fun hb3 => ?_)
    · replace h := h.1 hb3
      refine Vc.skip' ?_
      refine qZ ?_
      refine Vc.blk ?_
      refine qZ (rZ (mvZ (.int .i64 x) rfl (asZ (.int .i64 x) rfl (nZ (qZ (rZ (wZ rg (o_loadBA (atL (k := 1) rfl) sz68 (by decide) ag68 rfl rfl (v := eFormula f) rfl (mvZ (.int .i64 x) rfl (wZ rg (o_call (us := [eFormula f, AV.int .i64 x]) rfl (vl' vr (vl' vr (vn))) (ref08_node_ctr h fun e h => (asZ (.int .i64 e) rfl (nZ (qZ (rZ (mvZ (.int .i64 e) rfl (wZ rg (o_neq rfl rfl (nZ ?_))))))))))))))))))))
      refine Vc.cond' rfl (fun hb4 => ?_) (fun hb4 => ?_)
      · replace h := h.1 hb4
        refine qZ (rZ (mvZ (.int .i64 e) rfl (asZ (.int .i64 e) rfl (nZ ?_))))
        refine Vc.ret' ?_
        refine res_tmp (v := .int .i64 e) rfl (res_nil ?_)
        show Gives _ (.int .i64 e) _
        exact gives_out hrg (VW.refl _) (hQ _ h)
      replace h := h.2 hb4
      refine Vc.skip' ?_
      refine rZ ?_
      refine wZ rg (o_addG rfl rfl h.1 ?_)
      replace h := h.2
      refine mvZ (.int .i64 (x + 1)) rfl (nZ ?_)
      exact ⟨(x + 1), (canon (fc vr (fc vr (fc vr (fn)))) (sc rfl (sn))), h⟩
    replace h := h.2 hb3
    refine Vc.exit' (exB_self ?_)
    refine qZ (qZ (rZ (wZ rg (o_loadBA (atL (k := 1) rfl) sz68 (by decide) ag68 rfl rfl (v := eFormula f) rfl (wZ rg (o_faP td68 rfl rfl (by rw [sz3]; decide) rfl (wZ rg (o_loadB1 (atL (k := 1) rfl) sz3 ag3 rfl rfl (v := .int .i64 f.Top) rfl (wZ rg (o_call (us := [eFormula f, AV.int .i64 f.Top]) rfl (vl' vr (vl' vr (vn))) (ref08_Valid_ctr h fun r h => (wZ rg (o_not rfl (nZ ?_))))))))))))))
    refine Vc.cond' rfl (fun hb5 => ?_) (fun hb5 => ?_)
    · replace h := h.1 hb5
      refine qZ (rZ (asZ (.int .i64 10) rfl (nZ ?_)))
      refine Vc.ret' ?_
      refine res_tmp (v := .int .i64 10) rfl (res_nil ?_)
      show Gives _ (.int .i64 10) _
      exact gives_out hrg (VW.refl _) (hQ _ h)
    replace h := h.2 hb5
    refine Vc.skip' ?_
    refine qZ (rZ (asZ (.int .i64 0) rfl (nZ ?_)))
    refine Vc.ret' ?_
    refine res_tmp (v := .int .i64 0) rfl (res_nil ?_)
    show Gives _ (.int .i64 0) _
    exact gives_out hrg (VW.refl _) (hQ _ h)
  replace h := h.1 hb
  refine Wl.guardF rfl rfl hb rfl ?_
  refine Wl.guardF rfl rfl hb rfl ?_
  refine wZ rg (o_pickT rfl hb (v := .bool true) rfl (nZ ?_))
  refine Vc.cond' rfl (fun _ => ?_) (fun hb => Bool.noConfusion hb)
  refine qZ (rZ (asZ (.int .i64 3) rfl (nZ ?_)))
  refine Vc.ret' ?_
  refine res_tmp (v := .int .i64 3) rfl (res_nil ?_)
  show Gives _ (.int .i64 3) _
  exact gives_out hrg (VW.refl _) (hQ _ h)
end Go.Proofs.Ytllegjdggcmgaaa
/- Walks of functions. Conditions: none. -/
namespace Go.Proofs.Ytllegjdggcmgaaa
open Go.Gg
set_option maxRecDepth 100000
theorem order_Check_ctr {o : List Int} {vars : Int} {Q : Option Int → Prop} {S : St} {R : AV → St → Prop} (h : order_Check_W o vars Q) (hQ : ∀ r1, Q r1 → R (eErr 83 r1) S) :
    Ctr Try.prog 105 [eL (AV.int .i64) o, AV.int .i64 vars] S R := by
  unfold order_Check_W at h
  refine enterT Try.func105 rfl Try.ntmps105 Try.results105 (by kernel_rfl) (fun rg hrg => ?_)
  refine qZ (rZ (asZ .niface rfl (nZ (qZ ?_))))
  refine Vc.blk ?_
  obtain ⟨J, h, hJ⟩ := h
  refine Vc.join' (σ := (Bool)) (fun y => J y) (fun y => envOf [(0, eL (AV.int .i64) o), (1, .int .i64 vars), (8, .bool y)]) (fun y => stL S rg []) (fun x h => ?_) ?_
  · replace h := hJ x h
    show Vc _ _ _ _ (envOf [(0, eL (AV.int .i64) o), (1, .int .i64 vars), (8, .bool x)]) (stL S rg [])
    refine Vc.cond' rfl (fun hb => ?_) (fun hb => ?_)
    · replace h := h.1 hb
      refine qZ (rZ (wZ rg (o_iface (by rw [td83]; trivial) (v := .int .i64 3) rfl (asZ (.iface 83 (.int .i64 3)) rfl (nZ ?_)))))
      refine Vc.ret' ?_
      refine res_tmp (v := .iface 83 (.int .i64 3)) rfl (res_nil ?_)
      show Gives _ (.iface 83 (.int .i64 3)) _
      exact gives_out hrg (VW.refl _) (hQ _ h)
    replace h := h.2 hb
    refine qZ (rZ (mvZ (eL (AV.int .i64) o) rfl (wZ rg (o_len td22 rfl (mvZ (.int .i64 vars) rfl (wZ rg (o_neq rfl rfl (asZ (.bool ((o.length : Int) != vars)) rfl (nZ ?_)))))))))
    refine Vc.cond' rfl (fun hb1 => ?_) (fun hb1 => ?_)
    · replace h := h.1 hb1
      refine qZ (rZ (wZ rg (o_iface (by rw [td83]; trivial) (v := .int .i64 11) rfl (asZ (.iface 83 (.int .i64 11)) rfl (nZ ?_)))))
      refine Vc.ret' ?_
      refine res_tmp (v := .iface 83 (.int .i64 11)) rfl (res_nil ?_)
      show Gives _ (.iface 83 (.int .i64 11)) _
      exact gives_out hrg (VW.refl _) (hQ _ h)
    replace h := h.2 hb1
    refine Vc.skip' ?_
    refine qZ (rZ (mvZ (.int .i64 vars) rfl (wZ rg (o_make td139 bts4 ok4 (enc := AV.bool) (z' := false) zav4 (kk := 1) rfl rfl rfl h.1 (fun g1 => ?_)))))
    replace h := h.2
    refine asZ (.sl 1 rg 23 g1 0 (Int.toNat vars)) rfl (nZ (qZ (qZ (rZ (mvZ (eL (AV.int .i64) o) rfl (wZ rg (o_len td22 rfl (mvZ (.int .i64 0) rfl (nZ ?_)))))))))
    refine Vc.blk ?_
    obtain ⟨I, μ, h0, hI⟩ := h
    refine Vc.loop' (σ := ((Int × (List Bool)) × (Nat))) (fun y => I y.1) (fun y => μ y.1) (fun y => envOf [(1, .int .i64 vars), (5, .sl 1 rg 23 y.2 0 y.1.2.length), (24, eL (AV.int .i64) o), (25, .int .i64 (o.length : Int)), (26, .int .i64 y.1.1)]) (fun y => stL S rg [(23, .arr 1 (List.map AV.bool y.1.2), y.2)]) ((0, (rep' vars false)), g1) (canon (fc vr (fc (VW.slen (by first | rfl | omega | (simp only [go_sem] <;> omega))) (fc vr (fc vr (fc vr (fn)))))) (sc rfl (sn))) h0 (fun y h => ?_)
    obtain ⟨⟨x1, seen⟩, g2⟩ := y
    replace h := hI (x1, seen) h
    show Vc _ _ _ _ (envOf [(1, .int .i64 vars), (5, .sl 1 rg 23 g2 0 seen.length), (24, eL (AV.int .i64) o), (25, .int .i64 (o.length : Int)), (26, .int .i64 x1)]) (stL S rg [(23, .arr 1 (List.map AV.bool seen), g2)])
    refine qZ (rZ (wZ rg (o_lss rfl rfl (nZ (qZ ?_)))))
    refine Vc.cond' rfl (fun hb2 => ?_) (fun hb2 => ?_)
    · replace h := h.1 hb2
      refine Vc.skip' ?_
      refine qZ ?_
      refine Vc.blk ?_
      refine qZ (rZ (wZ rg (o_idxL td22 sz3 (by decide) (fun _ => rfl) rfl rfl h.1 ?_)))
      replace h := h.2
      refine wZ rg (o_loadI1 sz3 ag3 rfl rfl (v := .int .i64 (at' o x1)) rfl (asZ (.int .i64 (at' o x1)) rfl (nZ (qZ ?_))))
      obtain ⟨J, h, hJ⟩ := h
      refine Vc.join' (σ := ((Bool) × (Nat))) (fun y => J y.1) (fun y => envOf [(1, .int .i64 vars), (5, .sl 1 rg 23 y.2 0 seen.length), (7, .int .i64 (at' o x1)), (24, eL (AV.int .i64) o), (25, .int .i64 (o.length : Int)), (26, .int .i64 x1), (36, .bool y.1)]) (fun y => stL S rg [(23, .arr 1 (List.map AV.bool seen), y.2)]) (fun y h => ?_) ?_
      · obtain ⟨x2, g3⟩ := y
        replace h := hJ x2 h
        show Vc _ _ _ _ (envOf [(1, .int .i64 vars), (5, .sl 1 rg 23 g3 0 seen.length), (7, .int .i64 (at' o x1)), (24, eL (AV.int .i64) o), (25, .int .i64 (o.length : Int)), (26, .int .i64 x1), (36, .bool x2)]) (stL S rg [(23, .arr 1 (List.map AV.bool seen), g3)])
        refine Vc.cond' rfl (fun hb3 => ?_) (fun hb3 => ?_)
        · replace h := h.1 hb3
          refine qZ (rZ (wZ rg (o_iface (by rw [td83]; trivial) (v := .int .i64 3) rfl (asZ (.iface 83 (.int .i64 3)) rfl (nZ ?_)))))
          refine Vc.ret' ?_
          refine res_tmp (v := .iface 83 (.int .i64 3)) rfl (res_nil ?_)
          show Gives _ (.iface 83 (.int .i64 3)) _
          exact gives_out hrg (VW.refl _) (hQ _ h)
        replace h := h.2 hb3
        refine Vc.skip' ?_
        refine qZ (qZ (rZ (mvZ (.sl 1 rg 23 g3 0 seen.length) rfl (mvZ (.int .i64 (at' o x1)) rfl (wZ rg (o_idxR0 td139 sz4 (by decide) rfl rfl h.1 ?_))))))
        have hi := h.1
        replace h := h.2
        refine wZ rg (o_loadR1 (atL (k := 23) rfl) sz4 ag4 rfl (lt_of hi (by first | rfl | omega | (simp only [go_sem] <;> omega))) rfl (v := .bool (at' seen (at' o x1))) rfl (nZ ?_))
        refine Vc.cond' rfl (fun hb4 => ?_) (fun hb4 => ?_)
        · replace h := h.1 hb4
          refine qZ (rZ (wZ rg (o_iface (by rw [td83]; trivial) (v := .int .i64 6) rfl (asZ (.iface 83 (.int .i64 6)) rfl (nZ ?_)))))
          refine Vc.ret' ?_
          refine res_tmp (v := .iface 83 (.int .i64 6)) rfl (res_nil ?_)
          show Gives _ (.iface 83 (.int .i64 6)) _
          exact gives_out hrg (VW.refl _) (hQ _ h)
        replace h := h.2 hb4
        refine Vc.skip' ?_
        refine rZ ?_
        refine mvZ (.sl 1 rg 23 g3 0 seen.length) rfl (mvZ (.int .i64 (at' o x1)) rfl (wZ rg (o_idxR0 td139 sz4 (by decide) rfl rfl h.1 ?_)))
        have hi1 := h.1
        replace h := h.2
        refine wZ rg (o_storeR1 (atL (k := 23) rfl) sz4 (by decide) (x' := true) (fun _ => rfl) rfl rfl (lt_of hi1 (by first | rfl | omega | (simp only [go_sem] <;> omega))) rfl rfl setL (nZ (rZ (wZ rg (o_addG rfl rfl h.1 ?_)))))
        replace h := h.2
        refine mvZ (.int .i64 (x1 + 1)) rfl (nZ ?_)
        exact ⟨(((x1 + 1), (set' seen (at' o x1) true)), g3), (canon (fc vr (fc (VW.slen (by first | rfl | omega | (simp only [go_sem] <;> omega))) (fc vr (fc vr (fc vr (fn)))))) (sc rfl (sn))), h⟩
      refine rZ ?_
      refine mvZ (.int .i64 (at' o x1)) rfl (wZ rg (o_lss rfl rfl (mvZ (.bool (decide ((at' o x1) < 0))) rfl ?_)))
      refine Wl.guard rfl rfl (fun hb5 => ?_) (fun hb5 => ?_)
      · replace h := h.2 hb5
        refine mvZ (.int .i64 (at' o x1)) rfl ?_
        refine Wl.guardT rfl rfl hb5 ?_
        refine mvZ (.int .i64 vars) rfl ?_
        refine Wl.guardT rfl rfl hb5 ?_
        refine wZ rg (o_geq rfl rfl (wZ rg (o_pickF rfl hb5 (v := .bool (decide (vars ≤ (at' o x1)))) rfl (nZ ?_))))
        exact ⟨((decide (vars ≤ (at' o x1))), g2), (canon (fc vr (fc vr (fc vr (fc vr (fc vr (fc vr (fc vr (fn)))))))) (sc rfl (sn))), h⟩
      replace h := h.1 hb5
      refine Wl.guardF rfl rfl hb5 rfl ?_
      refine Wl.guardF rfl rfl hb5 rfl ?_
      refine wZ rg (o_pickT rfl hb5 (v := .bool true) rfl (nZ ?_))
      exact ⟨(true, g2), (canon (fc vr (fc vr (fc vr (fc vr (fc vr (fc vr (fc vr (fn)))))))) (sc rfl (sn))), h⟩
    replace h := h.2 hb2
    refine Vc.exit' (exB_self ?_)
    refine qZ (rZ (asZ .niface rfl (nZ ?_)))
    refine Vc.ret' ?_
    refine res_tmp (v := .niface) rfl (res_nil ?_)
    show Gives _ .niface _
    exact gives_out hrg (VW.refl _) (hQ _ h)
  refine rZ ?_
  refine mvZ (.int .i64 vars) rfl (wZ rg (o_lss rfl rfl (mvZ (.bool (decide (vars < 0))) rfl ?_)))
  refine Wl.guard rfl rfl (fun hb6 => ?_) (fun hb6 => ?_)
  · replace h := h.2 hb6
    refine mvZ (.int .i64 vars) rfl ?_
    refine Wl.guardT rfl rfl hb6 ?_
    refine wZ rg (o_gtr rfl rfl (wZ rg (o_pickF rfl hb6 (v := .bool (decide (24 < vars))) rfl (asZ (.bool (decide (24 < vars))) rfl (nZ ?_)))))
    exact ⟨(decide (24 < vars)), (canon (fc vr (fc vr (fc vr (fn)))) (sn)), h⟩
  replace h := h.1 hb6
  refine Wl.guardF rfl rfl hb6 rfl ?_
  refine wZ rg (o_pickT rfl hb6 (v := .bool true) rfl (asZ (.bool true) rfl (nZ ?_)))
  exact ⟨true, (canon (fc vr (fc vr (fc vr (fn)))) (sn)), h⟩
theorem order_places_ctr {o : List Int} {Q : List Int → Prop} {S : St} {R : AV → St → Prop} (h : order_places_W o Q) (hQ : ∀ r1, Q r1 → R (eL (AV.int .i64) r1) S) :
    Ctr Try.prog 170 [eL (AV.int .i64) o] S R := by
  unfold order_places_W at h
  refine enterT Try.func170 rfl Try.ntmps170 Try.results170 (by kernel_rfl) (fun rg hrg => ?_)
  refine qZ (rZ (asZ .nil rfl (nZ (qZ (rZ (mvZ (eL (AV.int .i64) o) rfl (wZ rg (o_len td22 rfl (wZ rg (o_make td22 bts3 ok3 (enc := AV.int .i64) (z' := 0) zav3 (kk := 1) rfl rfl rfl h.1 (fun g1 => ?_)))))))))))
  replace h := h.2
  refine asZ (.sl 1 rg 8 g1 0 (Int.toNat (o.length : Int))) rfl (nZ (qZ (qZ (rZ (mvZ (eL (AV.int .i64) o) rfl (wZ rg (o_len td22 rfl (mvZ (.int .i64 0) rfl (nZ ?_)))))))))
  refine Vc.blk ?_
  obtain ⟨I, μ, h0, hI⟩ := h
  refine Vc.loop' (σ := (Int × (List Int))) (fun y => I y) (fun y => μ y) (fun y => envOf [(3, .sl 1 rg 8 g1 0 y.2.length), (9, eL (AV.int .i64) o), (10, .int .i64 (o.length : Int)), (11, .int .i64 y.1)]) (fun y => stL S rg [(8, .arr 1 (List.map (AV.int .i64) y.2), g1)]) (0, (rep' (o.length : Int) 0)) (canon (fc (VW.slen (by first | rfl | omega | (simp only [go_sem] <;> omega))) (fc vr (fc vr (fc vr (fn))))) (sc rfl (sn))) h0 (fun y h => ?_)
  obtain ⟨x, out⟩ := y
  replace h := hI (x, out) h
  show Vc _ _ _ _ (envOf [(3, .sl 1 rg 8 g1 0 out.length), (9, eL (AV.int .i64) o), (10, .int .i64 (o.length : Int)), (11, .int .i64 x)]) (stL S rg [(8, .arr 1 (List.map (AV.int .i64) out), g1)])
  refine qZ (rZ (wZ rg (o_lss rfl rfl (nZ (qZ ?_)))))
  refine Vc.cond' rfl (fun hb => ?_) (fun hb => ?_)
  · replace h := h.1 hb
    refine Vc.skip' ?_
    refine qZ ?_
    refine Vc.blk ?_
    refine qZ (rZ (mvZ (.int .i64 x) rfl (wZ rg (o_idxL td22 sz3 (by decide) (fun _ => rfl) rfl rfl h.1 ?_))))
    replace h := h.2
    refine wZ rg (o_loadI1 sz3 ag3 rfl rfl (v := .int .i64 (at' o x)) rfl (asZ (.int .i64 x) rfl (asZ (.int .i64 (at' o x)) rfl (nZ (rZ (mvZ (.sl 1 rg 8 g1 0 out.length) rfl (mvZ (.int .i64 (at' o x)) rfl (mvZ (.int .i64 x) rfl (wZ rg (o_idxR0 td22 sz3 (by decide) rfl rfl h.1 ?_))))))))))
    have hi := h.1
    replace h := h.2
    refine wZ rg (o_storeR1 (atL (k := 8) rfl) sz3 (by decide) (x' := x) (fun _ => rfl) rfl rfl (lt_of hi (by first | rfl | omega | (simp only [go_sem] <;> omega))) rfl rfl setL (nZ (rZ (wZ rg (o_addG rfl rfl h.1 ?_)))))
    replace h := h.2
    refine mvZ (.int .i64 (x + 1)) rfl (nZ ?_)
    exact ⟨((x + 1), (set' out (at' o x) x)), (canon (fc (VW.slen (by first | rfl | omega | (simp only [go_sem] <;> omega))) (fc vr (fc vr (fc vr (fn))))) (sc rfl (sn))), h⟩
  replace h := h.2 hb
  refine Vc.exit' (exB_self ?_)
  refine qZ (rZ (mvZ (.sl 1 rg 8 g1 0 out.length) rfl (asZ (.sl 1 rg 8 g1 0 out.length) rfl (nZ ?_))))
  refine Vc.ret' ?_
  refine res_tmp (v := .sl 1 rg 8 g1 0 out.length) rfl (res_nil ?_)
  show Gives _ (.sl 1 rg 8 g1 0 out.length) _
  refine gives_freeze (k := 8) (xs := List.map (AV.int .i64) out) rfl (v' := eL (AV.int .i64) out) (frz_full rfl) ?_
  exact gives_out hrg (VW.refl _) (hQ _ h)
theorem order_Positions_ctr {o : List Int} {Q : List Int → Option Int → Prop} {S : St} {R : AV → St → Prop} (h : order_Positions_W o Q) (hQ : ∀ r1 r2, Q r1 r2 → R (.tuple [eL (AV.int .i64) r1, eErr 83 r2]) S) :
    Ctr Try.prog 107 [eL (AV.int .i64) o] S R := by
  unfold order_Positions_W at h
  refine enterT Try.func107 rfl Try.ntmps107 Try.results107 (by kernel_rfl) (fun rg hrg => ?_)
  refine qZ (rZ (asZ .nil rfl (asZ .niface rfl (nZ (qZ (qZ (rZ (mvZ (eL (AV.int .i64) o) rfl (mvZ (eL (AV.int .i64) o) rfl (wZ rg (o_len td22 rfl (wZ rg (o_call (us := [eL (AV.int .i64) o, AV.int .i64 (o.length : Int)]) rfl (vl' vr (vl' vr (vn))) (order_Check_ctr h fun err h => (asZ (eErr 83 err) rfl (nZ (qZ (rZ (mvZ (eErr 83 err) rfl (wZ rg (o_isnon td29 (E := 83) rfl rfl rfl (nZ ?_))))))))))))))))))))))
  refine Vc.cond' rfl (fun hb => ?_) (fun hb => ?_)
  · replace h := h.1 hb
    refine qZ (rZ (mvZ (eErr 83 err) rfl (asZ .nil rfl (asZ (eErr 83 err) rfl (nZ ?_)))))
    refine Vc.ret' ?_
    refine res_tmp (v := .nil) rfl (res_tmp (v := eErr 83 err) rfl (res_nil ?_))
    show Gives _ (.tuple [.nil, eErr 83 err]) _
    exact gives_out hrg (VW.tupL (vl' (VW.nilL) (vl' vr (vn)))) (hQ _ _ h)
  replace h := h.2 hb
  refine Vc.skip' ?_
  refine qZ (rZ (mvZ (eL (AV.int .i64) o) rfl (wZ rg (o_call (us := [eL (AV.int .i64) o]) rfl (vl' vr (vn)) (order_places_ctr h fun r h => (asZ (eL (AV.int .i64) r) rfl (asZ .niface rfl (nZ ?_))))))))
  refine Vc.ret' ?_
  refine res_tmp (v := eL (AV.int .i64) r) rfl (res_tmp (v := .niface) rfl (res_nil ?_))
  show Gives _ (.tuple [eL (AV.int .i64) r, .niface]) _
  exact gives_out hrg (VW.tupL (vl' vr (vl' vr (vn)))) (hQ _ _ h)
end Go.Proofs.Ytllegjdggcmgaaa
/- Walks of functions. Conditions: none. -/
namespace Go.Proofs.Ytllegjdggcmgaaa
open Go.Gg
set_option maxRecDepth 100000
theorem diagram_checkNode_ctr {d : GDiagram} {at1 : List Int} {i : Int} {Q : Option Int → Prop} {S : St} {R : AV → St → Prop} (h : diagram_checkNode_W d at1 i Q) (hQ : ∀ r1, Q r1 → R (eErr 83 r1) S) :
    Ctr Try.prog 140 [eDiagram d, eL (AV.int .i64) at1, AV.int .i64 i] S R := by
  unfold diagram_checkNode_W at h
  refine enterT Try.func140 rfl Try.ntmps140 Try.results140 (by kernel_rfl) (fun rg hrg => ?_)
  refine qZ (rZ (wZ rg (o_box (v := eDiagram d) rfl rfl (kk := 3) rfl (by decide) (fun g1 => (asZ .niface rfl (nZ (qZ (rZ (wZ rg (o_faP td25 rfl rfl (by rw [sz23]; decide) rfl (wZ rg (o_loadB1 (atL (k := 3) rfl) sz23 ag23 rfl rfl (v := eL eDNode d.Nodes) rfl (mvZ (.int .i64 i) rfl (wZ rg (o_idxL td23 sz134 (by decide) (fun _ => rfl) rfl rfl h.1 ?_)))))))))))))))
  replace h := h.2
  refine wZ rg (o_loadIA sz134 (by decide) ag134 rfl rfl (v := eDNode (at' d.Nodes i)) rfl (wZ rg (o_alloc zav134 ok134 (kk := 3) rfl (fun g2 => (wZ rg (o_storeB (atL (k := 7) rfl) sz134 (by decide) rfl (w := eDNode (at' d.Nodes i)) rfl rfl rfl (v := eDNode (at' d.Nodes i)) rfl setL (nZ (qZ ?_))))))))
  refine Vc.blk ?_
  obtain ⟨J, h, hJ⟩ := h
  refine Vc.join' (σ := ((Bool) × (Nat × Nat))) (fun y => J y.1) (fun y => envOf [(1, eL (AV.int .i64) at1), (3, .ptr rg 3 y.2.1 0 0), (7, .ptr rg 7 y.2.2 0 0), (15, .bool y.1)]) (fun y => stL S rg [(3, .arr 3 [eDiagram d], y.2.1), (7, .arr 3 [eDNode (at' d.Nodes i)], y.2.2)]) (fun y h => ?_) ?_
  · obtain ⟨x, ⟨g3, g4⟩⟩ := y
    replace h := hJ x h
    show Vc _ _ _ _ (envOf [(1, eL (AV.int .i64) at1), (3, .ptr rg 3 g3 0 0), (7, .ptr rg 7 g4 0 0), (15, .bool x)]) (stL S rg [(3, .arr 3 [eDiagram d], g3), (7, .arr 3 [eDNode (at' d.Nodes i)], g4)])
    refine Vc.cond' rfl (fun hb => ?_) (fun hb => ?_)
    · replace h := h.1 hb
      refine qZ (rZ (wZ rg (o_iface (by rw [td83]; trivial) (v := .int .i64 10) rfl (asZ (.iface 83 (.int .i64 10)) rfl (nZ ?_)))))
      refine Vc.ret' ?_
      refine res_tmp (v := .iface 83 (.int .i64 10)) rfl (res_nil ?_)
      show Gives _ (.iface 83 (.int .i64 10)) _
      exact gives_out hrg (VW.refl _) (hQ _ h)
    replace h := h.2 hb
    refine qZ (rZ (wZ rg (o_faP td134 rfl rfl (by rw [sz3]; decide) rfl (wZ rg (o_loadB1 (atL (k := 7) rfl) sz3 ag3 rfl rfl (v := .int .i64 ((at' d.Nodes i).Lo)) rfl (wZ rg (o_faP td134 rfl rfl (by rw [sz3]; decide) rfl (wZ rg (o_loadB1 (atL (k := 7) rfl) sz3 ag3 rfl rfl (v := .int .i64 ((at' d.Nodes i).Hi)) rfl (wZ rg (o_eql rfl rfl (asZ (.bool ((at' d.Nodes i).Lo == (at' d.Nodes i).Hi)) rfl (nZ ?_)))))))))))))
    refine Vc.cond' rfl (fun hb1 => ?_) (fun hb1 => ?_)
    · replace h := h.1 hb1
      refine qZ (rZ (wZ rg (o_iface (by rw [td83]; trivial) (v := .int .i64 2) rfl (asZ (.iface 83 (.int .i64 2)) rfl (nZ ?_)))))
      refine Vc.ret' ?_
      refine res_tmp (v := .iface 83 (.int .i64 2)) rfl (res_nil ?_)
      show Gives _ (.iface 83 (.int .i64 2)) _
      exact gives_out hrg (VW.refl _) (hQ _ h)
    replace h := h.2 hb1
    refine Vc.skip' ?_
    refine qZ (qZ (rZ (wZ rg (o_faP td134 rfl rfl (by rw [sz3]; decide) rfl (wZ rg (o_loadB1 (atL (k := 7) rfl) sz3 ag3 rfl rfl (v := .int .i64 ((at' d.Nodes i).Lo)) rfl (wZ rg (o_faP td134 rfl rfl (by rw [sz3]; decide) rfl (wZ rg (o_loadB1 (atL (k := 7) rfl) sz3 ag3 rfl rfl (v := .int .i64 ((at' d.Nodes i).Hi)) rfl ?_))))))))))
    refine wZ rg (o_bslice td22 ok3 zav3 (es := [.int .i64 ((at' d.Nodes i).Lo), .int .i64 ((at' d.Nodes i).Hi)]) rfl (kk := 1) rfl rfl rfl rfl rfl rfl (fun g5 => (wZ rg (o_lenR td22 rfl (mvZ (.int .i64 0) rfl (nZ ?_))))))
    refine Vc.blk ?_
    obtain ⟨I, μ, h0, hI⟩ := h
    refine Vc.loop' (σ := ((Int) × (Nat × Nat × Nat))) (fun y => I y.1) (fun y => μ y.1) (fun y => envOf [(1, eL (AV.int .i64) at1), (3, .ptr rg 3 y.2.1 0 0), (7, .ptr rg 7 y.2.2.1 0 0), (57, .sl 1 rg 57 y.2.2.2 0 ([(at' d.Nodes i).Lo, (at' d.Nodes i).Hi].length)), (58, .int .i64 ([(at' d.Nodes i).Lo, (at' d.Nodes i).Hi].length : Int)), (59, .int .i64 y.1)]) (fun y => stL S rg [(3, .arr 3 [eDiagram d], y.2.1), (7, .arr 3 [eDNode (at' d.Nodes i)], y.2.2.1), (57, .arr 1 (List.map (AV.int .i64) [(at' d.Nodes i).Lo, (at' d.Nodes i).Hi]), y.2.2.2)]) (0, (g3, g4, g5)) (canon (fc vr (fc vr (fc vr (fc vr (fc vr (fc vr (fn))))))) (sc rfl (sc rfl (sc rfl (sn))))) h0 (fun y h => ?_)
    obtain ⟨x1, ⟨g6, g7, g8⟩⟩ := y
    replace h := hI x1 h
    show Vc _ _ _ _ (envOf [(1, eL (AV.int .i64) at1), (3, .ptr rg 3 g6 0 0), (7, .ptr rg 7 g7 0 0), (57, .sl 1 rg 57 g8 0 ([(at' d.Nodes i).Lo, (at' d.Nodes i).Hi].length)), (58, .int .i64 ([(at' d.Nodes i).Lo, (at' d.Nodes i).Hi].length : Int)), (59, .int .i64 x1)]) (stL S rg [(3, .arr 3 [eDiagram d], g6), (7, .arr 3 [eDNode (at' d.Nodes i)], g7), (57, .arr 1 (List.map (AV.int .i64) [(at' d.Nodes i).Lo, (at' d.Nodes i).Hi]), g8)])
    refine qZ (rZ (wZ rg (o_lss rfl rfl (nZ (qZ ?_)))))
    refine Vc.cond' rfl (fun hb2 => ?_) (fun hb2 => ?_)
    · replace h := h.1 hb2
      refine Vc.skip' ?_
      refine qZ ?_
      refine Vc.blk ?_
      refine qZ (rZ (wZ rg (o_idxR0 td22 sz3 (by decide) rfl rfl h.1 ?_)))
      have hi := h.1
      replace h := h.2
      refine wZ rg (o_loadR1 (atL (k := 57) rfl) sz3 ag3 rfl (lt_of hi (by first | rfl | omega | (simp only [go_sem] <;> omega))) rfl (v := .int .i64 (at' [(at' d.Nodes i).Lo, (at' d.Nodes i).Hi] x1)) rfl ?_)
      obtain ⟨r, hs⟩ : ∃ qz : Int, qz = (at' [(at' d.Nodes i).Lo, (at' d.Nodes i).Hi] x1) := ⟨_, rfl⟩
      replace h := h r hs
      refine wZ rg (o_assign (v := .int .i64 r) (by subst hs; rfl) (nZ ?_))
      obtain ⟨J, h, hJ⟩ := h
      refine Vc.join' (σ := ((Bool) × (Nat × Nat × Nat))) (fun y => J y.1) (fun y => envOf [(1, eL (AV.int .i64) at1), (3, .ptr rg 3 y.2.1 0 0), (7, .ptr rg 7 y.2.2.1 0 0), (57, .sl 1 rg 57 y.2.2.2 0 ([(at' d.Nodes i).Lo, (at' d.Nodes i).Hi].length)), (58, .int .i64 ([(at' d.Nodes i).Lo, (at' d.Nodes i).Hi].length : Int)), (59, .int .i64 x1), (82, .bool y.1)]) (fun y => stL S rg [(3, .arr 3 [eDiagram d], y.2.1), (7, .arr 3 [eDNode (at' d.Nodes i)], y.2.2.1), (57, .arr 1 (List.map (AV.int .i64) [(at' d.Nodes i).Lo, (at' d.Nodes i).Hi]), y.2.2.2)]) (fun y h => ?_) ?_
      · obtain ⟨x2, ⟨g9, g10, g11⟩⟩ := y
        replace h := hJ x2 h
        show Vc _ _ _ _ (envOf [(1, eL (AV.int .i64) at1), (3, .ptr rg 3 g9 0 0), (7, .ptr rg 7 g10 0 0), (57, .sl 1 rg 57 g11 0 ([(at' d.Nodes i).Lo, (at' d.Nodes i).Hi].length)), (58, .int .i64 ([(at' d.Nodes i).Lo, (at' d.Nodes i).Hi].length : Int)), (59, .int .i64 x1), (82, .bool x2)]) (stL S rg [(3, .arr 3 [eDiagram d], g9), (7, .arr 3 [eDNode (at' d.Nodes i)], g10), (57, .arr 1 (List.map (AV.int .i64) [(at' d.Nodes i).Lo, (at' d.Nodes i).Hi]), g11)])
        refine Vc.cond' rfl (fun hb3 => ?_) (fun hb3 => ?_)
        · replace h := h.1 hb3
          refine qZ (rZ (wZ rg (o_iface (by rw [td83]; trivial) (v := .int .i64 13) rfl (asZ (.iface 83 (.int .i64 13)) rfl (nZ ?_)))))
          refine Vc.ret' ?_
          refine res_tmp (v := .iface 83 (.int .i64 13)) rfl (res_nil ?_)
          show Gives _ (.iface 83 (.int .i64 13)) _
          exact gives_out hrg (VW.refl _) (hQ _ h)
        replace h := h.2 hb3
        refine Vc.skip' ?_
        refine rZ ?_
        refine wZ rg (o_addG rfl rfl h.1 ?_)
        replace h := h.2
        refine mvZ (.int .i64 (x1 + 1)) rfl (nZ ?_)
        exact ⟨((x1 + 1), (g9, g10, g11)), (canon (fc vr (fc vr (fc vr (fc vr (fc vr (fc vr (fn))))))) (sc rfl (sc rfl (sc rfl (sn))))), h⟩
      rcases Bool.eq_false_or_eq_true (decide (2 ≤ r)) with hb4 | hb4
      · replace h := h.1 hb4
        have hg := h.1
        replace h := h.2
        have hg1 := h.1
        replace h := h.2
        have hg2 := h.1
        replace h := h.2
        have hg3 := h.1
        replace h := h.2
        refine Vc.drawn' mixed rg (fun _ => jcr2) (by kernel_rfl) ?_
        refine dP rfl rfl (o_move (v := .int .i64 r) rfl (dP rfl rfl (o_geq rfl rfl (dP rfl rfl (o_move (v := .bool (decide (2 ≤ r))) rfl ?_)))))
        refine dGT rfl rfl hb4 ?_
        refine dP rfl rfl (o_move (v := eL (AV.int .i64) at1) rfl ?_)
        refine dGT rfl rfl rfl ?_
        refine dP rfl rfl (o_faP td25 rfl rfl (by rw [sz23]; decide) rfl ?_)
        refine dGT rfl rfl rfl ?_
        refine dL (E := ([(rg, 3)], [])) rfl rfl (by simp) (cfn) (o_loadB1 (atL (k := 3) rfl) sz23 ag23 rfl rfl (v := eL eDNode d.Nodes) rfl ?_)
        refine dGT rfl rfl rfl ?_
        refine dP rfl rfl (o_move (v := .int .i64 r) rfl ?_)
        refine dGT rfl rfl rfl ?_
        refine dP rfl rfl (o_subG rfl rfl hg ?_)
        refine dGT rfl rfl rfl ?_
        refine dP rfl rfl (o_idxL td23 sz134 (by decide) (fun _ => rfl) rfl rfl hg1 ?_)
        refine dGT rfl rfl rfl ?_
        refine dP rfl rfl (o_fa td134 rfl rfl (by rw [sz3]; decide) rfl rfl ?_)
        refine dGT rfl rfl rfl ?_
        refine dP rfl rfl (o_loadI1 sz3 ag3 rfl rfl (v := .int .i64 ((at' d.Nodes (r - 2)).Var)) rfl ?_)
        refine dGT rfl rfl rfl ?_
        refine dP rfl rfl (o_idxL td22 sz3 (by decide) (fun _ => rfl) rfl rfl hg2 ?_)
        refine dGT rfl rfl rfl ?_
        refine dP rfl rfl (o_loadI1 sz3 ag3 rfl rfl (v := .int .i64 (at' at1 ((at' d.Nodes (r - 2)).Var))) rfl ?_)
        refine dGT rfl rfl rfl ?_
        refine dP rfl rfl (o_move (v := eL (AV.int .i64) at1) rfl ?_)
        refine dGT rfl rfl rfl ?_
        refine dP rfl rfl (o_faP td134 rfl rfl (by rw [sz3]; decide) rfl ?_)
        refine dGT rfl rfl rfl ?_
        refine dL (E := ([(rg, 7)], [])) rfl rfl (by simp) (cfa (by simp [apartE]) (cfn)) (o_loadB1 (atL (k := 7) rfl) sz3 ag3 rfl rfl (v := .int .i64 ((at' d.Nodes i).Var)) rfl ?_)
        refine dGT rfl rfl rfl ?_
        refine dP rfl rfl (o_idxL td22 sz3 (by decide) (fun _ => rfl) rfl rfl hg3 ?_)
        refine dGT rfl rfl rfl ?_
        refine dP rfl rfl (o_loadI1 sz3 ag3 rfl rfl (v := .int .i64 (at' at1 ((at' d.Nodes i).Var))) rfl ?_)
        refine dGT rfl rfl rfl ?_
        refine dP rfl rfl (o_leq rfl rfl (dP rfl rfl (o_pickT rfl rfl (v := .bool (decide ((at' at1 ((at' d.Nodes (r - 2)).Var)) ≤ (at' at1 ((at' d.Nodes i).Var))))) rfl (dN ?_))))
        exact ⟨((decide ((at' at1 ((at' d.Nodes (r - 2)).Var)) ≤ (at' at1 ((at' d.Nodes i).Var)))), (g6, g7, g8)), (canon (fc vr (fc vr (fc vr (fc vr (fc vr (fc vr (fc vr (fn)))))))) (sc rfl (sc rfl (sc rfl (sn))))), h⟩
      replace h := h.2 hb4
      refine Vc.drawn' mixed rg (fun _ => jcr2) (by kernel_rfl) ?_
      refine dP rfl rfl (o_move (v := .int .i64 r) rfl (dP rfl rfl (o_geq rfl rfl (dP rfl rfl (o_move (v := .bool (decide (2 ≤ r))) rfl ?_)))))
      refine dGF rfl rfl hb4 rfl ?_
      refine dGF rfl rfl rfl rfl ?_
      refine dGF rfl rfl rfl rfl ?_
      refine dGF rfl rfl rfl rfl ?_
      refine dGF rfl rfl rfl rfl ?_
      refine dGF rfl rfl rfl rfl ?_
      refine dGF rfl rfl rfl rfl ?_
      refine dGF rfl rfl rfl rfl ?_
      refine dGF rfl rfl rfl rfl ?_
      refine dGF rfl rfl rfl rfl ?_
      refine dGF rfl rfl rfl rfl ?_
      refine dGF rfl rfl rfl rfl ?_
      refine dGF rfl rfl rfl rfl ?_
      refine dGF rfl rfl rfl rfl ?_
      refine dGF rfl rfl rfl rfl ?_
      refine dGF rfl rfl rfl rfl ?_
      refine dP rfl rfl (o_pickF rfl rfl (v := .bool false) rfl (dN ?_))
      exact ⟨(false, (g6, g7, g8)), (canon (fc vr (fc vr (fc vr (fc vr (fc vr (fc vr (fc vr (fn)))))))) (sc rfl (sc rfl (sc rfl (sn))))), h⟩
    replace h := h.2 hb2
    refine Vc.exit' (exB_self ?_)
    refine qZ (rZ (asZ .niface rfl (nZ ?_)))
    refine Vc.ret' ?_
    refine res_tmp (v := .niface) rfl (res_nil ?_)
    show Gives _ .niface _
    exact gives_out hrg (VW.refl _) (hQ _ h)
  refine rZ ?_
  refine wZ rg (o_faP td134 rfl rfl (by rw [sz3]; decide) rfl (wZ rg (o_loadB1 (atL (k := 7) rfl) sz3 ag3 rfl rfl (v := .int .i64 ((at' d.Nodes i).Var)) rfl (wZ rg (o_lss rfl rfl (mvZ (.bool (decide ((at' d.Nodes i).Var < 0))) rfl ?_))))))
  refine Wl.guard rfl rfl (fun hb5 => ?_) (fun hb5 => ?_)
  · replace h := h.2 hb5
    refine wZ rg (o_faP td134 rfl rfl (by rw [sz3]; decide) rfl ?_)
    refine Wl.guardT rfl rfl hb5 ?_
    refine wZ rg (o_loadB1 (atL (k := 7) rfl) sz3 ag3 rfl rfl (v := .int .i64 ((at' d.Nodes i).Var)) rfl ?_)
    refine Wl.guardT rfl rfl hb5 ?_
    refine wZ rg (o_faP td25 rfl rfl (by rw [sz22]; decide) rfl ?_)
    refine Wl.guardT rfl rfl hb5 ?_
    refine wZ rg (o_loadB1 (atL (k := 3) rfl) sz22 ag22 rfl rfl (v := eL (AV.int .i64) d.Order) rfl ?_)
    refine Wl.guardT rfl rfl hb5 ?_
    refine wZ rg (o_len td22 rfl ?_)
    refine Wl.guardT rfl rfl hb5 ?_
    refine wZ rg (o_geq rfl rfl (wZ rg (o_pickF rfl hb5 (v := .bool (decide ((d.Order.length : Int) ≤ (at' d.Nodes i).Var))) rfl (mvZ (.bool (decide ((d.Order.length : Int) ≤ (at' d.Nodes i).Var))) rfl ?_))))
    refine Wl.guard rfl rfl (fun hb6 => ?_) (fun hb6 => ?_)
    · replace h := h.2 hb6
      refine wZ rg (o_faP td134 rfl rfl (by rw [sz3]; decide) rfl ?_)
      refine Wl.guardT rfl rfl hb6 ?_
      refine wZ rg (o_loadB1 (atL (k := 7) rfl) sz3 ag3 rfl rfl (v := .int .i64 ((at' d.Nodes i).Lo)) rfl ?_)
      refine Wl.guardT rfl rfl hb6 ?_
      refine wZ rg (o_faP td134 rfl rfl (by rw [sz3]; decide) rfl ?_)
      refine Wl.guardT rfl rfl hb6 ?_
      refine wZ rg (o_loadB1 (atL (k := 7) rfl) sz3 ag3 rfl rfl (v := .int .i64 ((at' d.Nodes i).Hi)) rfl ?_)
      refine Wl.guardT rfl rfl hb6 ?_
      refine wZ rg (o_min rfl rfl ?_)
      refine Wl.guardT rfl rfl hb6 ?_
      refine wZ rg (o_lss rfl rfl (wZ rg (o_pickF rfl hb6 (v := .bool (decide ((min ((at' d.Nodes i).Lo) ((at' d.Nodes i).Hi)) < 0))) rfl (mvZ (.bool (decide ((min ((at' d.Nodes i).Lo) ((at' d.Nodes i).Hi)) < 0))) rfl ?_))))
      refine Wl.guard rfl rfl (fun hb7 => ?_) (fun hb7 => ?_)
      · replace h := h.2 hb7
        refine wZ rg (o_faP td134 rfl rfl (by rw [sz3]; decide) rfl ?_)
        refine Wl.guardT rfl rfl hb7 ?_
        refine wZ rg (o_loadB1 (atL (k := 7) rfl) sz3 ag3 rfl rfl (v := .int .i64 ((at' d.Nodes i).Lo)) rfl ?_)
        refine Wl.guardT rfl rfl hb7 ?_
        refine wZ rg (o_faP td134 rfl rfl (by rw [sz3]; decide) rfl ?_)
        refine Wl.guardT rfl rfl hb7 ?_
        refine wZ rg (o_loadB1 (atL (k := 7) rfl) sz3 ag3 rfl rfl (v := .int .i64 ((at' d.Nodes i).Hi)) rfl ?_)
        refine Wl.guardT rfl rfl hb7 ?_
        refine wZ rg (o_max rfl rfl ?_)
        refine Wl.guardT rfl rfl hb7 ?_
        refine mvZ (.int .i64 i) rfl ?_
        refine Wl.guardT rfl rfl hb7 ?_
        refine wZ rg (o_addG rfl rfl h.1 ?_)
        replace h := h.2
        refine Wl.guardT rfl rfl hb7 ?_
        refine wZ rg (o_gtr rfl rfl (wZ rg (o_pickF rfl hb7 (v := .bool (decide ((1 + i) < (max ((at' d.Nodes i).Lo) ((at' d.Nodes i).Hi))))) rfl (asZ (.bool (decide ((1 + i) < (max ((at' d.Nodes i).Lo) ((at' d.Nodes i).Hi))))) rfl (nZ ?_)))))
        exact ⟨((decide ((1 + i) < (max ((at' d.Nodes i).Lo) ((at' d.Nodes i).Hi)))), (g1, g2)), (canon (fc vr (fc vr (fc vr (fc vr (fn))))) (sc rfl (sc rfl (sn)))), h⟩
      replace h := h.1 hb7
      refine Wl.guardF rfl rfl hb7 rfl ?_
      refine Wl.guardF rfl rfl hb7 rfl ?_
      refine Wl.guardF rfl rfl hb7 rfl ?_
      refine Wl.guardF rfl rfl hb7 rfl ?_
      refine Wl.guardF rfl rfl hb7 rfl ?_
      refine Wl.guardF rfl rfl hb7 rfl ?_
      refine Wl.guardF rfl rfl hb7 rfl ?_
      refine wZ rg (o_pickT rfl hb7 (v := .bool true) rfl (asZ (.bool true) rfl (nZ ?_)))
      exact ⟨(true, (g1, g2)), (canon (fc vr (fc vr (fc vr (fc vr (fn))))) (sc rfl (sc rfl (sn)))), h⟩
    replace h := h.1 hb6
    refine Wl.guardF rfl rfl hb6 rfl ?_
    refine Wl.guardF rfl rfl hb6 rfl ?_
    refine Wl.guardF rfl rfl hb6 rfl ?_
    refine Wl.guardF rfl rfl hb6 rfl ?_
    refine Wl.guardF rfl rfl hb6 rfl ?_
    refine wZ rg (o_pickT rfl hb6 (v := .bool true) rfl (mvZ (.bool true) rfl ?_))
    refine Wl.guardF rfl rfl rfl rfl ?_
    refine Wl.guardF rfl rfl rfl rfl ?_
    refine Wl.guardF rfl rfl rfl rfl ?_
    refine Wl.guardF rfl rfl rfl rfl ?_
    refine Wl.guardF rfl rfl rfl rfl ?_
    refine Wl.guardF rfl rfl rfl rfl ?_
    refine Wl.guardF rfl rfl rfl rfl ?_
    refine Wl.guardF rfl rfl rfl rfl ?_
    refine wZ rg (o_pickT rfl rfl (v := .bool true) rfl (asZ (.bool true) rfl (nZ ?_)))
    exact ⟨(true, (g1, g2)), (canon (fc vr (fc vr (fc vr (fc vr (fn))))) (sc rfl (sc rfl (sn)))), h⟩
  replace h := h.1 hb5
  refine Wl.guardF rfl rfl hb5 rfl ?_
  refine Wl.guardF rfl rfl hb5 rfl ?_
  refine Wl.guardF rfl rfl hb5 rfl ?_
  refine Wl.guardF rfl rfl hb5 rfl ?_
  refine Wl.guardF rfl rfl hb5 rfl ?_
  refine wZ rg (o_pickT rfl hb5 (v := .bool true) rfl (mvZ (.bool true) rfl ?_))
  refine Wl.guardF rfl rfl rfl rfl ?_
  refine Wl.guardF rfl rfl rfl rfl ?_
  refine Wl.guardF rfl rfl rfl rfl ?_
  refine Wl.guardF rfl rfl rfl rfl ?_
  refine Wl.guardF rfl rfl rfl rfl ?_
  refine Wl.guardF rfl rfl rfl rfl ?_
  refine wZ rg (o_pickT rfl rfl (v := .bool true) rfl (mvZ (.bool true) rfl ?_))
  refine Wl.guardF rfl rfl rfl rfl ?_
  refine Wl.guardF rfl rfl rfl rfl ?_
  refine Wl.guardF rfl rfl rfl rfl ?_
  refine Wl.guardF rfl rfl rfl rfl ?_
  refine Wl.guardF rfl rfl rfl rfl ?_
  refine Wl.guardF rfl rfl rfl rfl ?_
  refine Wl.guardF rfl rfl rfl rfl ?_
  refine Wl.guardF rfl rfl rfl rfl ?_
  refine wZ rg (o_pickT rfl rfl (v := .bool true) rfl (asZ (.bool true) rfl (nZ ?_)))
  exact ⟨(true, (g1, g2)), (canon (fc vr (fc vr (fc vr (fc vr (fn))))) (sc rfl (sc rfl (sn)))), h⟩
theorem diagram_numbered_1__e_ctr {fu : Nat} : ∀ {r : Int} {u : GDiagram} {u1 : Bool} {u2 : Int} {u3 : List Bool} {q0 k0 g0 q1 k1 g1 q2 k2 g2 q3 k3 g3 q4 k4 g4 q5 k5 g5 : Nat} (_hdk : DK [(q0, k0), (q3, k3), (q4, k4), (q5, k5), (q1, k1), (q2, k2)]) {Q : Bool → Int → List Bool → Prop} {S : St} {R : AV → St → Prop} (_h : diagram_numbered_1__e_W fu r u u1 u2 u3 Q) (_hQ : ∀ r1 r2 r3, Q r1 r2 r3 → R (.tuple []) (stX S [(q0, k0, .arr 1 [.sl 1 q5 k5 g5 0 r3.length], g0), (q3, k3, .arr 1 [.bool r1], g3), (q4, k4, .arr 1 [.int .i64 r2], g4), (q5, k5, .arr 1 (List.map AV.bool r3), g5), (q1, k1, .arr 1 [.fn (.func 193) [] [.ptr q0 k0 g0 0 0, .ptr q1 k1 g1 0 0, .ptr q2 k2 g2 0 0, .ptr q3 k3 g3 0 0, .ptr q4 k4 g4 0 0]], g1), (q2, k2, .arr 3 [eDiagram u], g2)])),
    Ctr Try.prog 193 [AV.int .i64 r, .ptr q0 k0 g0 0 0, .ptr q1 k1 g1 0 0, .ptr q2 k2 g2 0 0, .ptr q3 k3 g3 0 0, .ptr q4 k4 g4 0 0] (stX S [(q0, k0, .arr 1 [.sl 1 q5 k5 g5 0 u3.length], g0), (q3, k3, .arr 1 [.bool u1], g3), (q4, k4, .arr 1 [.int .i64 u2], g4), (q5, k5, .arr 1 (List.map AV.bool u3), g5), (q1, k1, .arr 1 [.fn (.func 193) [] [.ptr q0 k0 g0 0 0, .ptr q1 k1 g1 0 0, .ptr q2 k2 g2 0 0, .ptr q3 k3 g3 0 0, .ptr q4 k4 g4 0 0]], g1), (q2, k2, .arr 3 [eDiagram u], g2)]) R := by
  induction fu with
  | zero =>
    intro r u u1 u2 u3 q0 k0 g0 q1 k1 g1 q2 k2 g2 q3 k3 g3 q4 k4 g4 q5 k5 g5 hdk Q S R h hQ
    exact False.elim h
  | succ fu ih =>
  intro r u u1 u2 u3 q0 k0 g0 q1 k1 g1 q2 k2 g2 q3 k3 g3 q4 k4 g4 q5 k5 g5 hdk Q S R h hQ
  rw [diagram_numbered_1__e_W] at h
  refine enterT Try.func193 rfl Try.ntmps193 Try.results193 (by kernel_rfl) (fun rg hrg => ?_)
  have hdx : DX [(q0, k0, .arr 1 [.sl 1 q5 k5 g5 0 u3.length], g0), (q3, k3, .arr 1 [.bool u1], g3), (q4, k4, .arr 1 [.int .i64 u2], g4), (q5, k5, .arr 1 (List.map AV.bool u3), g5), (q1, k1, .arr 1 [.fn (.func 193) [] [.ptr q0 k0 g0 0 0, .ptr q1 k1 g1 0 0, .ptr q2 k2 g2 0 0, .ptr q3 k3 g3 0 0, .ptr q4 k4 g4 0 0]], g1), (q2, k2, .arr 3 [eDiagram u], g2)] := hdk
  have hfr := fun X' e => fresh_set (S := S) (rg := rg) (X := [(q0, k0, .arr 1 [.sl 1 q5 k5 g5 0 u3.length], g0), (q3, k3, .arr 1 [.bool u1], g3), (q4, k4, .arr 1 [.int .i64 u2], g4), (q5, k5, .arr 1 (List.map AV.bool u3), g5), (q1, k1, .arr 1 [.fn (.func 193) [] [.ptr q0 k0 g0 0 0, .ptr q1 k1 g1 0 0, .ptr q2 k2 g2 0 0, .ptr q3 k3 g3 0 0, .ptr q4 k4 g4 0 0]], g1), (q2, k2, .arr 3 [eDiagram u], g2)]) (X' := X') e hrg
  have hne0 := fresh_ne hdx hrg 0 rfl
  have hne3 := fresh_ne hdx hrg 1 rfl
  have hne4 := fresh_ne hdx hrg 2 rfl
  have hne5 := fresh_ne hdx hrg 3 rfl
  have hne1 := fresh_ne hdx hrg 4 rfl
  have hne2 := fresh_ne hdx hrg 5 rfl
  refine qZ (qZ (rZ (mvZ (.int .i64 r) rfl (wZ rg (o_lss rfl rfl (mvZ (.bool (decide (r < 2))) rfl ?_))))))
  refine Wl.guard rfl rfl (fun hb => ?_) (fun hb => ?_)
  · replace h := h.2 hb
    refine wZ rg (o_loadB1 (atX hne0 hdx 0 rfl) sz139 ag139 rfl rfl (v := .sl 1 q5 k5 g5 0 u3.length) rfl ?_)
    refine Wl.guardT rfl rfl hb ?_
    refine mvZ (.int .i64 r) rfl ?_
    refine Wl.guardT rfl rfl hb ?_
    refine wZ rg (o_subG rfl rfl h.1 ?_)
    replace h := h.2
    refine Wl.guardT rfl rfl hb ?_
    refine wZ rg (o_idxR0 td139 sz4 (by decide) rfl rfl h.1 ?_)
    have hi := h.1
    replace h := h.2
    refine Wl.guardT rfl rfl hb ?_
    refine wZ rg (o_loadR1 (atX hne5 hdx 3 rfl) sz4 ag4 rfl (lt_of hi (by first | rfl | omega | (simp only [go_sem] <;> omega))) rfl (v := .bool (at' u3 (r - 2))) rfl (wZ rg (o_pickF rfl hb (v := .bool (at' u3 (r - 2))) rfl (nZ ?_))))
    refine Vc.cond' rfl (fun hb1 => ?_) (fun hb1 => ?_)
    · replace h := h.1 hb1
      refine Vc.ret' ?_
      refine res_nil ?_
      show Gives _ (.tuple []) _
      exact gives_out (hfr _ rfl) (VW.refl _) (hQ _ _ _ h)
    replace h := h.2 hb1
    refine Vc.skip' ?_
    refine qZ (rZ (wZ rg (o_loadB1 (atX hne0 hdx 0 rfl) sz139 ag139 rfl rfl (v := .sl 1 q5 k5 g5 0 u3.length) rfl (mvZ (.int .i64 r) rfl (wZ rg (o_subG rfl rfl h.1 ?_))))))
    replace h := h.2
    refine wZ rg (o_idxR0 td139 sz4 (by decide) rfl rfl h.1 ?_)
    have hi1 := h.1
    replace h := h.2
    refine wZ rg (o_storeR1 (atX hne5 hdx 3 rfl) sz4 (by decide) (x' := true) (fun _ => rfl) rfl rfl (lt_of hi1 (by first | rfl | omega | (simp only [go_sem] <;> omega))) rfl rfl (setX hne5 hdx 3 rfl rfl) (nZ (qZ ?_)))
    have hg := h.1
    replace h := h.2
    have hg1 := h.1
    replace h := h.2
    obtain ⟨u4, u5, u6, hc, hl, h⟩ := h
    refine Vc.drawn' mixed rg (usOf [(8, wc (fun _ => .tuple []) [(q1, k1), (q2, k2)] [(q0, k0), (q3, k3), (q4, k4), (q5, k5)] (fun _ => [(q0, k0, .arr 1 [.sl 1 q5 k5 g5 0 u6.length], g0), (q3, k3, .arr 1 [.bool u4], g3), (q4, k4, .arr 1 [.int .i64 u5], g4), (q5, k5, .arr 1 (List.map AV.bool u6), g5)]))]) (by kernel_rfl) ?_
    refine dL (E := ([(q1, k1)], [])) rfl rfl (by simp) (cfn) (o_loadB1 (atX hne1 hdx 4 rfl) sz200 ag200 rfl rfl (v := .fn (.func 193) [] [.ptr q0 k0 g0 0 0, .ptr q1 k1 g1 0 0, .ptr q2 k2 g2 0 0, .ptr q3 k3 g3 0 0, .ptr q4 k4 g4 0 0]) rfl (dP rfl rfl (o_faP td25 rfl rfl (by rw [sz23]; decide) rfl ?_)))
    refine dL (E := ([(q2, k2)], [])) rfl rfl (by simp) (cfa (by simp [apartE]) (cfn)) (o_loadB1 (atX hne2 hdx 5 rfl) sz23 ag23 rfl rfl (v := eL eDNode u.Nodes) rfl (dP rfl rfl (o_move (v := .int .i64 r) rfl (dP rfl rfl (o_subG rfl rfl hg (dP rfl rfl (o_idxL td23 sz134 (by decide) (fun _ => rfl) rfl rfl hg1 (dP rfl rfl (o_fa td134 rfl rfl (by rw [sz3]; decide) rfl rfl ?_)))))))))
    refine dP rfl rfl (o_loadI1 sz3 ag3 rfl rfl (v := .int .i64 ((at' u.Nodes (r - 2)).Lo)) rfl ?_)
    refine vdT.eqS (congrArg (fun nQ => stL (stX S [(q0, k0, .arr 1 [.sl 1 q5 k5 g5 0 nQ], g0), (q3, k3, .arr 1 [.bool u1], g3), (q4, k4, .arr 1 [.int .i64 u2], g4), (q5, k5, .arr 1 (List.map AV.bool (set' u3 (r - 2) true)), g5), (q1, k1, .arr 1 [.fn (.func 193) [] [.ptr q0 k0 g0 0 0, .ptr q1 k1 g1 0 0, .ptr q2 k2 g2 0 0, .ptr q3 k3 g3 0 0, .ptr q4 k4 g4 0 0]], g1), (q2, k2, .arr 3 [eDiagram u], g2)]) rg []) (show u3.length = (set' u3 (r - 2) true).length from by first | rfl | omega | (simp only [go_sem] <;> omega))) ?_
    refine dCE (vs := [AV.int .i64 ((at' u.Nodes (r - 2)).Lo), .ptr q0 k0 g0 0 0, .ptr q1 k1 g1 0 0, .ptr q2 k2 g2 0 0, .ptr q3 k3 g3 0 0, .ptr q4 k4 g4 0 0]) (V := fun _ => .tuple []) (rd := [(q1, k1), (q2, k2)]) (wk := [(q0, k0), (q3, k3), (q4, k4), (q5, k5)]) (wr := fun _ => [(q0, k0, .arr 1 [.sl 1 q5 k5 g5 0 u6.length], g0), (q3, k3, .arr 1 [.bool u4], g3), (q4, k4, .arr 1 [.int .i64 u5], g4), (q5, k5, .arr 1 (List.map AV.bool u6), g5)]) rfl (vl' vr (vl' vr (vl' vr (vl' vr (vl' vr (vl' vr (vn))))))) rfl (cfo (by kernel_rfl) (cfo (by kernel_rfl) (cfn))) (by simp) (fun _ => rfl) (fun S' hA hB => ctrX (sx_c (ag hB 0 rfl (atX hne0 hdx 0 rfl)) (sx_c (ag hB 1 rfl (atX hne3 hdx 1 rfl)) (sx_c (ag hB 2 rfl (atX hne4 hdx 2 rfl)) (sx_c (ag hB 3 rfl (atX hne5 hdx 3 rfl)) (sx_c (ag hA 0 rfl (atX hne1 hdx 4 rfl)) (sx_c (ag hA 1 rfl (atX hne2 hdx 5 rfl)) (sx_n))))))) (ih (dk_c (ni_c (dk_at 0 1 hdk rfl rfl rfl) (ni_c (dk_at 0 2 hdk rfl rfl rfl) (ni_c (dk_at 0 3 hdk rfl rfl rfl) (ni_c (dk_at 0 4 hdk rfl rfl rfl) (ni_c (dk_at 0 5 hdk rfl rfl rfl) (ni_n)))))) (dk_c (ni_c (dk_at 1 2 hdk rfl rfl rfl) (ni_c (dk_at 1 3 hdk rfl rfl rfl) (ni_c (dk_at 1 4 hdk rfl rfl rfl) (ni_c (dk_at 1 5 hdk rfl rfl rfl) (ni_n))))) (dk_c (ni_c (dk_at 2 3 hdk rfl rfl rfl) (ni_c (dk_at 2 4 hdk rfl rfl rfl) (ni_c (dk_at 2 5 hdk rfl rfl rfl) (ni_n)))) (dk_c (ni_c (dk_at 3 4 hdk rfl rfl rfl) (ni_c (dk_at 3 5 hdk rfl rfl rfl) (ni_n))) (dk_c (ni_c (dk_at 4 5 hdk rfl rfl rfl) (ni_n)) (dk_c (ni_n) (dk_n))))))) hc (fun _ _ _ he => by obtain ⟨rfl, rfl, rfl⟩ := he; exact ⟨fun i => ([] : List Nat).getD i 0, rfl, sm_c (sm_c (sm_c (sm_c (sx_c (ag hA 0 rfl (atX hne1 hdx 4 rfl)) (sx_c (ag hA 1 rfl (atX hne2 hdx 5 rfl)) (sx_n))))))⟩))) (fun _ => ?_)
    refine vdT.eqS (sa_c (sa_c (sa_c (sa_c (sa_n) (setX hne5 hdx 3 rfl rfl)) (setX hne4 hdx 2 rfl rfl)) (setX hne3 hdx 1 rfl rfl)) (setX hne0 hdx 0 rfl rfl)) ?_
    refine dN ?_
    refine qZ ?_
    have hg2 := h.1
    replace h := h.2
    have hg3 := h.1
    replace h := h.2
    obtain ⟨u7, u8, u9, hc1, hl1, h⟩ := h
    refine Vc.drawn' mixed rg (usOf [(8, wc (fun _ => .tuple []) [(q1, k1), (q2, k2)] [(q0, k0), (q3, k3), (q4, k4), (q5, k5)] (fun _ => [(q0, k0, .arr 1 [.sl 1 q5 k5 g5 0 u9.length], g0), (q3, k3, .arr 1 [.bool u7], g3), (q4, k4, .arr 1 [.int .i64 u8], g4), (q5, k5, .arr 1 (List.map AV.bool u9), g5)]))]) (by kernel_rfl) ?_
    refine dL (E := ([(q1, k1)], [])) rfl rfl (by simp) (cfn) (o_loadB1 (atX hne1 hdx 4 rfl) sz200 ag200 rfl rfl (v := .fn (.func 193) [] [.ptr q0 k0 g0 0 0, .ptr q1 k1 g1 0 0, .ptr q2 k2 g2 0 0, .ptr q3 k3 g3 0 0, .ptr q4 k4 g4 0 0]) rfl (dP rfl rfl (o_faP td25 rfl rfl (by rw [sz23]; decide) rfl ?_)))
    refine dL (E := ([(q2, k2)], [])) rfl rfl (by simp) (cfa (by simp [apartE]) (cfn)) (o_loadB1 (atX hne2 hdx 5 rfl) sz23 ag23 rfl rfl (v := eL eDNode u.Nodes) rfl (dP rfl rfl (o_move (v := .int .i64 r) rfl (dP rfl rfl (o_subG rfl rfl hg2 (dP rfl rfl (o_idxL td23 sz134 (by decide) (fun _ => rfl) rfl rfl hg3 (dP rfl rfl (o_fa td134 rfl rfl (by rw [sz3]; decide) rfl rfl ?_)))))))))
    refine dP rfl rfl (o_loadI1 sz3 ag3 rfl rfl (v := .int .i64 ((at' u.Nodes (r - 2)).Hi)) rfl ?_)
    refine dCE (vs := [AV.int .i64 ((at' u.Nodes (r - 2)).Hi), .ptr q0 k0 g0 0 0, .ptr q1 k1 g1 0 0, .ptr q2 k2 g2 0 0, .ptr q3 k3 g3 0 0, .ptr q4 k4 g4 0 0]) (V := fun _ => .tuple []) (rd := [(q1, k1), (q2, k2)]) (wk := [(q0, k0), (q3, k3), (q4, k4), (q5, k5)]) (wr := fun _ => [(q0, k0, .arr 1 [.sl 1 q5 k5 g5 0 u9.length], g0), (q3, k3, .arr 1 [.bool u7], g3), (q4, k4, .arr 1 [.int .i64 u8], g4), (q5, k5, .arr 1 (List.map AV.bool u9), g5)]) rfl (vl' vr (vl' vr (vl' vr (vl' vr (vl' vr (vl' vr (vn))))))) rfl (cfo (by kernel_rfl) (cfo (by kernel_rfl) (cfn))) (by simp) (fun _ => rfl) (fun S' hA hB => ctrX (sx_c (ag hB 0 rfl (atX hne0 hdx 0 rfl)) (sx_c (ag hB 1 rfl (atX hne3 hdx 1 rfl)) (sx_c (ag hB 2 rfl (atX hne4 hdx 2 rfl)) (sx_c (ag hB 3 rfl (atX hne5 hdx 3 rfl)) (sx_c (ag hA 0 rfl (atX hne1 hdx 4 rfl)) (sx_c (ag hA 1 rfl (atX hne2 hdx 5 rfl)) (sx_n))))))) (ih (dk_c (ni_c (dk_at 0 1 hdk rfl rfl rfl) (ni_c (dk_at 0 2 hdk rfl rfl rfl) (ni_c (dk_at 0 3 hdk rfl rfl rfl) (ni_c (dk_at 0 4 hdk rfl rfl rfl) (ni_c (dk_at 0 5 hdk rfl rfl rfl) (ni_n)))))) (dk_c (ni_c (dk_at 1 2 hdk rfl rfl rfl) (ni_c (dk_at 1 3 hdk rfl rfl rfl) (ni_c (dk_at 1 4 hdk rfl rfl rfl) (ni_c (dk_at 1 5 hdk rfl rfl rfl) (ni_n))))) (dk_c (ni_c (dk_at 2 3 hdk rfl rfl rfl) (ni_c (dk_at 2 4 hdk rfl rfl rfl) (ni_c (dk_at 2 5 hdk rfl rfl rfl) (ni_n)))) (dk_c (ni_c (dk_at 3 4 hdk rfl rfl rfl) (ni_c (dk_at 3 5 hdk rfl rfl rfl) (ni_n))) (dk_c (ni_c (dk_at 4 5 hdk rfl rfl rfl) (ni_n)) (dk_c (ni_n) (dk_n))))))) hc1 (fun _ _ _ he => by obtain ⟨rfl, rfl, rfl⟩ := he; exact ⟨fun i => ([] : List Nat).getD i 0, rfl, sm_c (sm_c (sm_c (sm_c (sx_c (ag hA 0 rfl (atX hne1 hdx 4 rfl)) (sx_c (ag hA 1 rfl (atX hne2 hdx 5 rfl)) (sx_n))))))⟩))) (fun _ => ?_)
    refine vdT.eqS (sa_c (sa_c (sa_c (sa_c (sa_n) (setX hne5 hdx 3 rfl rfl)) (setX hne4 hdx 2 rfl rfl)) (setX hne3 hdx 1 rfl rfl)) (setX hne0 hdx 0 rfl rfl)) ?_
    refine dN ?_
    obtain ⟨J, h, hJ⟩ := h
    refine Vc.join' (σ := (Bool)) (fun y => J y) (fun y => envOf [(5, .ptr q4 k4 g4 0 0)]) (fun y => stL (stX S [(q0, k0, .arr 1 [.sl 1 q5 k5 g5 0 u9.length], g0), (q3, k3, .arr 1 [.bool y], g3), (q4, k4, .arr 1 [.int .i64 u8], g4), (q5, k5, .arr 1 (List.map AV.bool u9), g5), (q1, k1, .arr 1 [.fn (.func 193) [] [.ptr q0 k0 g0 0 0, .ptr q1 k1 g1 0 0, .ptr q2 k2 g2 0 0, .ptr q3 k3 g3 0 0, .ptr q4 k4 g4 0 0]], g1), (q2, k2, .arr 3 [eDiagram u], g2)]) rg []) (fun x h => ?_) ?_
    · replace h := hJ x h
      show Vc _ _ _ _ (envOf [(5, .ptr q4 k4 g4 0 0)]) (stL (stX S [(q0, k0, .arr 1 [.sl 1 q5 k5 g5 0 u9.length], g0), (q3, k3, .arr 1 [.bool x], g3), (q4, k4, .arr 1 [.int .i64 u8], g4), (q5, k5, .arr 1 (List.map AV.bool u9), g5), (q1, k1, .arr 1 [.fn (.func 193) [] [.ptr q0 k0 g0 0 0, .ptr q1 k1 g1 0 0, .ptr q2 k2 g2 0 0, .ptr q3 k3 g3 0 0, .ptr q4 k4 g4 0 0]], g1), (q2, k2, .arr 3 [eDiagram u], g2)]) rg [])
      refine rZ ?_
      refine wZ rg (o_loadB1 (atX hne4 hdx 2 rfl) sz3 ag3 rfl rfl (v := .int .i64 u8) rfl (wZ rg (o_addG rfl rfl h.1 ?_)))
      replace h := h.2
      refine wZ rg (o_storeB (atX hne4 hdx 2 rfl) sz3 (by decide) rfl (w := .int .i64 (u8 + 1)) rfl rfl rfl (v := .int .i64 (u8 + 1)) rfl (setX hne4 hdx 2 rfl rfl) (nZ (res_nil ?_)))
      show Gives _ (.tuple []) _
      exact gives_out (hfr _ rfl) (VW.refl _) (hQ _ _ _ h)
    refine rZ ?_
    refine wZ rg (o_loadB1 (atX hne3 hdx 1 rfl) sz4 ag4 rfl rfl (v := .bool u7) rfl (mvZ (.bool u7) rfl ?_))
    refine Wl.guard rfl rfl (fun hb2 => ?_) (fun hb2 => ?_)
    · replace h := h.1 hb2
      refine mvZ (.int .i64 r) rfl ?_
      refine Wl.guardT rfl rfl hb2 ?_
      refine wZ rg (o_subG rfl rfl h.1 ?_)
      replace h := h.2
      refine Wl.guardT rfl rfl hb2 ?_
      refine wZ rg (o_loadB1 (atX hne4 hdx 2 rfl) sz3 ag3 rfl rfl (v := .int .i64 u8) rfl ?_)
      refine Wl.guardT rfl rfl hb2 ?_
      refine wZ rg (o_eql rfl rfl (wZ rg (o_pickT rfl hb2 (v := .bool ((r - 2) == u8)) rfl (wZ rg (o_storeB (atX hne3 hdx 1 rfl) sz4 (by decide) rfl (w := .bool ((r - 2) == u8)) rfl rfl rfl (v := .bool ((r - 2) == u8)) rfl (setX hne3 hdx 1 rfl rfl) (nZ ?_))))))
      exact ⟨((r - 2) == u8), (canon (fc vr (fn)) (sn)), h⟩
    replace h := h.2 hb2
    refine Wl.guardF rfl rfl hb2 rfl ?_
    refine Wl.guardF rfl rfl hb2 rfl ?_
    refine Wl.guardF rfl rfl hb2 rfl ?_
    refine wZ rg (o_pickF rfl hb2 (v := .bool false) rfl (wZ rg (o_storeB (atX hne3 hdx 1 rfl) sz4 (by decide) rfl (w := .bool false) rfl rfl rfl (v := .bool false) rfl (setX hne3 hdx 1 rfl rfl) (nZ ?_))))
    exact ⟨false, (canon (fc vr (fn)) (sn)), h⟩
  replace h := h.1 hb
  refine Wl.guardF rfl rfl hb rfl ?_
  refine Wl.guardF rfl rfl hb rfl ?_
  refine Wl.guardF rfl rfl hb rfl ?_
  refine Wl.guardF rfl rfl hb rfl ?_
  refine wZ rg (o_pickT rfl hb (v := .bool true) rfl (nZ ?_))
  refine Vc.cond' rfl (fun _ => ?_) (fun hb => Bool.noConfusion hb)
  refine Vc.ret' ?_
  refine res_nil ?_
  show Gives _ (.tuple []) _
  exact gives_out (hfr _ rfl) (VW.refl _) (hQ _ _ _ h)
theorem diagram_numbered_ctr {d : GDiagram} {Q : Bool → Prop} {S : St} {R : AV → St → Prop} (h : diagram_numbered_W d Q) (hQ : ∀ r1, Q r1 → R (AV.bool r1) S) :
    Ctr Try.prog 141 [eDiagram d] S R := by
  unfold diagram_numbered_W at h
  refine enterT Try.func141 rfl Try.ntmps141 Try.results141 (by kernel_rfl) (fun rg hrg => ?_)
  refine qZ (rZ (wZ rg (o_box (v := eDiagram d) rfl rfl (kk := 3) rfl (by decide) (fun g1 => (asZ (.bool false) rfl (nZ (qZ (rZ (wZ rg (o_alloc zav3 ok3 (kk := 1) rfl (fun g2 => (wZ rg (o_alloc zav4 ok4 (kk := 1) rfl (fun g3 => (wZ rg (o_storeB (atL (k := 3) rfl) sz3 (by decide) rfl (w := .int .i64 0) rfl rfl rfl (v := .int .i64 0) rfl setL ?_))))))))))))))))
  refine wZ rg (o_storeB (atL (k := 4) rfl) sz4 (by decide) rfl (w := .bool true) rfl rfl rfl (v := .bool true) rfl setL (nZ (qZ (rZ (wZ rg (o_faP td25 rfl rfl (by rw [sz23]; decide) rfl (wZ rg (o_loadB1 (atL (k := 1) rfl) sz23 ag23 rfl rfl (v := eL eDNode d.Nodes) rfl (wZ rg (o_len td23 rfl (wZ rg (o_make td139 bts4 ok4 (enc := AV.bool) (z' := false) zav4 (kk := 1) rfl rfl rfl h.1 (fun g4 => ?_)))))))))))))
  replace h := h.2
  refine wZ rg (o_alloc zav139 ok139 (kk := 1) rfl (fun g5 => (wZ rg (o_storeB (atL (k := 5) rfl) sz139 (by decide) rfl (w := .sl 1 rg 10 g4 0 (Int.toNat (d.Nodes.length : Int))) rfl rfl rfl (v := .sl 1 rg 10 g4 0 (Int.toNat (d.Nodes.length : Int))) rfl setL (nZ (qZ (rZ (wZ rg (o_alloc zav200 ok200 (kk := 1) rfl (fun g6 => (nZ (qZ (rZ ?_)))))))))))))
  refine wZ rg (o_func (vs := []) (us := [.ptr rg 5 g5 0 0, .ptr rg 6 g6 0 0, .ptr rg 1 g1 0 0, .ptr rg 4 g3 0 0, .ptr rg 3 g2 0 0]) rfl rfl ?_)
  refine wZ rg (o_storeB (atL (k := 6) rfl) sz200 (by decide) rfl (w := .fn (.func 193) [] [.ptr rg 5 g5 0 0, .ptr rg 6 g6 0 0, .ptr rg 1 g1 0 0, .ptr rg 4 g3 0 0, .ptr rg 3 g2 0 0]) rfl rfl rfl (v := .fn (.func 193) [] [.ptr rg 5 g5 0 0, .ptr rg 6 g6 0 0, .ptr rg 1 g1 0 0, .ptr rg 4 g3 0 0, .ptr rg 3 g2 0 0]) rfl setL (nZ (qZ (rZ ?_))))
  refine wZ rg (o_loadB1 (atL (k := 6) rfl) sz200 ag200 rfl rfl (v := .fn (.func 193) [] [.ptr rg 5 g5 0 0, .ptr rg 6 g6 0 0, .ptr rg 1 g1 0 0, .ptr rg 4 g3 0 0, .ptr rg 3 g2 0 0]) rfl (wZ rg (o_faP td25 rfl rfl (by rw [sz3]; decide) rfl (wZ rg (o_loadB1 (atL (k := 1) rfl) sz3 ag3 rfl rfl (v := .int .i64 d.Root) rfl ?_)))))
  refine Wl.wk (EWk.ow (k := 5) (o' := .arr 1 [.sl 1 rg 10 g4 0 ((rep' (d.Nodes.length : Int) false).length)]) rfl (OW.one (VWL.vwc (vl' (VW.slen (by first | rfl | omega | (simp only [go_sem] <;> omega))) (vn))))) ?_
  obtain ⟨_, h⟩ := h
  refine wZ rg (o_call (us := [AV.int .i64 d.Root, .ptr rg 5 g5 0 0, .ptr rg 6 g6 0 0, .ptr rg 1 g1 0 0, .ptr rg 4 g3 0 0, .ptr rg 3 g2 0 0]) rfl (vl' vr (vl' vr (vl' vr (vl' vr (vl' vr (vl' vr (vn))))))) (ctrX (sx_c (atL (k := 5) rfl) (sx_c (atL (k := 4) rfl) (sx_c (atL (k := 3) rfl) (sx_c (atL (k := 10) rfl) (sx_c (atL (k := 6) rfl) (sx_c (atL (k := 1) rfl) (sx_n))))))) (diagram_numbered_1__e_ctr (dk_c (ni_c (ni_o rfl) (ni_c (ni_o rfl) (ni_c (ni_o rfl) (ni_c (ni_o rfl) (ni_c (ni_o rfl) (ni_n)))))) (dk_c (ni_c (ni_o rfl) (ni_c (ni_o rfl) (ni_c (ni_o rfl) (ni_c (ni_o rfl) (ni_n))))) (dk_c (ni_c (ni_o rfl) (ni_c (ni_o rfl) (ni_c (ni_o rfl) (ni_n)))) (dk_c (ni_c (ni_o rfl) (ni_c (ni_o rfl) (ni_n))) (dk_c (ni_c (ni_o rfl) (ni_n)) (dk_c (ni_n) (dk_n))))))) h fun ok next1 u h => ?_)))
  refine Wl.eqS (sy_c (sy_c (sy_c (sy_c (sx_c (atL (k := 6) rfl) (sx_c (atL (k := 1) rfl) (sx_n))) setL) setL) setL) setL) ?_
  have hl := h.1
  replace h := h.2
  refine nZ (qZ (rZ (wZ rg (o_loadB1 (atL (k := 4) rfl) sz4 ag4 rfl rfl (v := .bool ok) rfl (mvZ (.bool ok) rfl ?_)))))
  refine Wl.guard rfl rfl (fun hb => ?_) (fun hb => ?_)
  · replace h := h.1 hb
    refine wZ rg (o_loadB1 (atL (k := 3) rfl) sz3 ag3 rfl rfl (v := .int .i64 next1) rfl ?_)
    refine Wl.guardT rfl rfl hb ?_
    refine wZ rg (o_faP td25 rfl rfl (by rw [sz23]; decide) rfl ?_)
    refine Wl.guardT rfl rfl hb ?_
    refine wZ rg (o_loadB1 (atL (k := 1) rfl) sz23 ag23 rfl rfl (v := eL eDNode d.Nodes) rfl ?_)
    refine Wl.guardT rfl rfl hb ?_
    refine wZ rg (o_len td23 rfl ?_)
    refine Wl.guardT rfl rfl hb ?_
    refine wZ rg (o_eql rfl rfl (wZ rg (o_pickT rfl hb (v := .bool (next1 == (d.Nodes.length : Int))) rfl (asZ (.bool (next1 == (d.Nodes.length : Int))) rfl (nZ ?_)))))
    refine Vc.ret' ?_
    refine res_tmp (v := .bool (next1 == (d.Nodes.length : Int))) rfl (res_nil ?_)
    show Gives _ (.bool (next1 == (d.Nodes.length : Int))) _
    exact gives_out hrg (VW.refl _) (hQ _ h)
  replace h := h.2 hb
  refine Wl.guardF rfl rfl hb rfl ?_
  refine Wl.guardF rfl rfl hb rfl ?_
  refine Wl.guardF rfl rfl hb rfl ?_
  refine Wl.guardF rfl rfl hb rfl ?_
  refine wZ rg (o_pickF rfl hb (v := .bool false) rfl (asZ (.bool false) rfl (nZ ?_)))
  refine Vc.ret' ?_
  refine res_tmp (v := .bool false) rfl (res_nil ?_)
  show Gives _ (.bool false) _
  exact gives_out hrg (VW.refl _) (hQ _ h)
theorem diagram_Check_ctr {d : GDiagram} {Q : Option Int → Prop} {S : St} {R : AV → St → Prop} (h : diagram_Check_W d Q) (hQ : ∀ r1, Q r1 → R (eErr 83 r1) S) :
    Ctr Try.prog 66 [eDiagram d] S R := by
  unfold diagram_Check_W at h
  refine enterT Try.func66 rfl Try.ntmps66 Try.results66 (by kernel_rfl) (fun rg hrg => ?_)
  refine qZ (rZ (wZ rg (o_box (v := eDiagram d) rfl rfl (kk := 3) rfl (by decide) (fun g1 => (asZ .niface rfl (nZ (qZ (rZ (wZ rg (o_faP td25 rfl rfl (by rw [sz22]; decide) rfl (wZ rg (o_loadB1 (atL (k := 1) rfl) sz22 ag22 rfl rfl (v := eL (AV.int .i64) d.Order) rfl (wZ rg (o_call (us := [eL (AV.int .i64) d.Order]) rfl (vl' vr (vn)) (order_Positions_ctr h fun r r1 h => ?_)))))))))))))))
  refine mvZ (.tuple [eL (AV.int .i64) r, eErr 83 r1]) rfl (wZ rg (o_extract (v := eL (AV.int .i64) r) rfl rfl rfl (wZ rg (o_extract (v := eErr 83 r1) rfl rfl rfl (asZ (eL (AV.int .i64) r) rfl (asZ (eErr 83 r1) rfl (nZ (qZ (qZ (rZ (mvZ (eErr 83 r1) rfl (wZ rg (o_isnon td29 (E := 83) rfl rfl rfl (nZ ?_))))))))))))))
  refine Vc.cond' rfl (fun hb => ?_) (fun hb => ?_)
  · replace h := h.1 hb
    refine qZ (rZ (mvZ (eErr 83 r1) rfl (asZ (eErr 83 r1) rfl (nZ ?_))))
    refine Vc.ret' ?_
    refine res_tmp (v := eErr 83 r1) rfl (res_nil ?_)
    show Gives _ (eErr 83 r1) _
    exact gives_out hrg (VW.refl _) (hQ _ h)
  replace h := h.2 hb
  refine Vc.skip' ?_
  refine qZ (qZ (rZ (wZ rg (o_faP td25 rfl rfl (by rw [sz23]; decide) rfl (wZ rg (o_loadB1 (atL (k := 1) rfl) sz23 ag23 rfl rfl (v := eL eDNode d.Nodes) rfl (wZ rg (o_len td23 rfl (wZ rg (o_gtr rfl rfl (nZ ?_)))))))))))
  refine Vc.cond' rfl (fun hb1 => ?_) (fun hb1 => ?_)
  · replace h := h.1 hb1
    refine qZ (rZ (wZ rg (o_iface (by rw [td83]; trivial) (v := .int .i64 4) rfl (asZ (.iface 83 (.int .i64 4)) rfl (nZ ?_)))))
    refine Vc.ret' ?_
    refine res_tmp (v := .iface 83 (.int .i64 4)) rfl (res_nil ?_)
    show Gives _ (.iface 83 (.int .i64 4)) _
    exact gives_out hrg (VW.refl _) (hQ _ h)
  replace h := h.2 hb1
  refine Vc.skip' ?_
  refine qZ (rZ (wZ rg (o_makeMap (enc := AV.bool) td148 ksh134 trivial (fun g2 => (asZ (.map rg 23 g2) rfl (nZ (qZ (qZ (rZ (wZ rg (o_faP td25 rfl rfl (by rw [sz23]; decide) rfl (wZ rg (o_loadB1 (atL (k := 1) rfl) sz23 ag23 rfl rfl (v := eL eDNode d.Nodes) rfl (wZ rg (o_len td23 rfl (mvZ (.int .i64 0) rfl (nZ ?_)))))))))))))))))
  refine Vc.blk ?_
  obtain ⟨I, μ, h0, hI⟩ := h
  refine Vc.loop' (σ := (Int × (GMap Bool))) (fun y => I y) (fun y => μ y) (fun y => envOf [(1, .ptr rg 1 g1 0 0), (3, eL (AV.int .i64) r), (5, .map rg 23 g2), (25, eL eDNode d.Nodes), (26, .int .i64 (d.Nodes.length : Int)), (27, .int .i64 y.1)]) (fun y => stL S rg [(1, .arr 3 [eDiagram d], g1), (23, mapE AV.bool (.many [.i64, .i64, .i64]) y.2, g2)]) (0, (mnew : GMap Bool)) (canon (fc vr (fc vr (fc vr (fc vr (fc vr (fc vr (fn))))))) (sc rfl (sc rfl (sn)))) h0 (fun y h => ?_)
  obtain ⟨x, x1⟩ := y
  replace h := hI (x, x1) h
  show Vc _ _ _ _ (envOf [(1, .ptr rg 1 g1 0 0), (3, eL (AV.int .i64) r), (5, .map rg 23 g2), (25, eL eDNode d.Nodes), (26, .int .i64 (d.Nodes.length : Int)), (27, .int .i64 x)]) (stL S rg [(1, .arr 3 [eDiagram d], g1), (23, mapE AV.bool (.many [.i64, .i64, .i64]) x1, g2)])
  refine qZ (rZ (wZ rg (o_lss rfl rfl (nZ (qZ ?_)))))
  refine Vc.cond' rfl (fun hb2 => ?_) (fun hb2 => ?_)
  · replace h := h.1 hb2
    refine Vc.skip' ?_
    refine qZ ?_
    refine Vc.blk ?_
    refine qZ (rZ (mvZ (.int .i64 x) rfl (wZ rg (o_idxL td23 sz134 (by decide) (fun _ => rfl) rfl rfl h.1 ?_))))
    replace h := h.2
    refine wZ rg (o_loadIA sz134 (by decide) ag134 rfl rfl (v := eDNode (at' d.Nodes x)) rfl (wZ rg (o_alloc zav134 ok134 (kk := 3) rfl (fun g3 => (asZ (.int .i64 x) rfl (wZ rg (o_storeB (atL (k := 7) rfl) sz134 (by decide) rfl (w := eDNode (at' d.Nodes x)) rfl rfl rfl (v := eDNode (at' d.Nodes x)) rfl setL (nZ (qZ (qZ (rZ ?_)))))))))))
    refine wZ rg (o_loadBA (atL (k := 1) rfl) sz25 (by decide) ag25 rfl rfl (v := eDiagram d) rfl (mvZ (eL (AV.int .i64) r) rfl (mvZ (.int .i64 x) rfl (wZ rg (o_call (us := [eDiagram d, eL (AV.int .i64) r, AV.int .i64 x]) rfl (vl' vr (vl' vr (vl' vr (vn)))) (diagram_checkNode_ctr h fun err h => (asZ (eErr 83 err) rfl (nZ (qZ (rZ (mvZ (eErr 83 err) rfl (wZ rg (o_isnon td29 (E := 83) rfl rfl rfl ?_)))))))))))))
    refine nZ ?_
    refine Vc.cond' rfl (fun hb3 => ?_) (fun hb3 => ?_)
    · replace h := h.1 hb3
      refine qZ (rZ (mvZ (eErr 83 err) rfl (asZ (eErr 83 err) rfl (nZ ?_))))
      refine Vc.ret' ?_
      refine res_tmp (v := eErr 83 err) rfl (res_nil ?_)
      show Gives _ (eErr 83 err) _
      exact gives_out hrg (VW.refl _) (hQ _ h)
    replace h := h.2 hb3
    refine Vc.skip' ?_
    refine qZ (qZ (rZ (mvZ (.map rg 23 g2) rfl (wZ rg (o_loadBA (atL (k := 7) rfl) sz134 (by decide) ag134 rfl rfl (v := eDNode (at' d.Nodes x)) rfl (wZ rg (o_lookup1 (atL (k := 23) rfl) td148 ksh134 ok4 (z := false) zav4 rfl rfl (nZ ?_))))))))
    refine Vc.cond' rfl (fun hb4 => ?_) (fun hb4 => ?_)
    · replace h := h.1 hb4
      refine qZ (rZ (wZ rg (o_iface (by rw [td83]; trivial) (v := .int .i64 6) rfl (asZ (.iface 83 (.int .i64 6)) rfl (nZ ?_)))))
      refine Vc.ret' ?_
      refine res_tmp (v := .iface 83 (.int .i64 6)) rfl (res_nil ?_)
      show Gives _ (.iface 83 (.int .i64 6)) _
      exact gives_out hrg (VW.refl _) (hQ _ h)
    replace h := h.2 hb4
    refine Vc.skip' ?_
    refine rZ ?_
    refine mvZ (.map rg 23 g2) rfl (wZ rg (o_loadBA (atL (k := 7) rfl) sz134 (by decide) ag134 rfl rfl (v := eDNode (at' d.Nodes x)) rfl (wZ rg (o_mapUpd (v := true) (atL (k := 23) rfl) td148 ksh134 rfl rfl rfl setL (nZ (rZ (wZ rg (o_addG rfl rfl h.1 ?_))))))))
    replace h := h.2
    refine mvZ (.int .i64 (x + 1)) rfl (nZ ?_)
    exact ⟨((x + 1), (mput x1 [(at' d.Nodes x).Var, (at' d.Nodes x).Lo, (at' d.Nodes x).Hi] true)), (canon (fc vr (fc vr (fc vr (fc vr (fc vr (fc vr (fn))))))) (sc rfl (sc rfl (sn)))), h⟩
  replace h := h.2 hb2
  refine Vc.exit' (exB_self ?_)
  refine qZ ?_
  refine Vc.blk ?_
  obtain ⟨J, h, hJ⟩ := h
  refine Vc.join' (σ := ((Bool) × (Nat))) (fun y => J y.1) (fun y => envOf [(1, .ptr rg 1 y.2 0 0), (46, .bool y.1)]) (fun y => stL S rg [(1, .arr 3 [eDiagram d], y.2)]) (fun y h => ?_) ?_
  · obtain ⟨x2, g4⟩ := y
    replace h := hJ x2 h
    show Vc _ _ _ _ (envOf [(1, .ptr rg 1 g4 0 0), (46, .bool x2)]) (stL S rg [(1, .arr 3 [eDiagram d], g4)])
    refine Vc.cond' rfl (fun hb5 => ?_) (fun hb5 => ?_)
    · replace h := h.1 hb5
      refine qZ (rZ (wZ rg (o_iface (by rw [td83]; trivial) (v := .int .i64 10) rfl (asZ (.iface 83 (.int .i64 10)) rfl (nZ ?_)))))
      refine Vc.ret' ?_
      refine res_tmp (v := .iface 83 (.int .i64 10)) rfl (res_nil ?_)
      show Gives _ (.iface 83 (.int .i64 10)) _
      exact gives_out hrg (VW.refl _) (hQ _ h)
    replace h := h.2 hb5
    refine qZ (rZ (wZ rg (o_loadBA (atL (k := 1) rfl) sz25 (by decide) ag25 rfl rfl (v := eDiagram d) rfl (wZ rg (o_call (us := [eDiagram d]) rfl (vl' vr (vn)) (diagram_numbered_ctr h fun r2 h => (wZ rg (o_not rfl (asZ (.bool (!r2)) rfl (nZ ?_))))))))))
    refine Vc.cond' rfl (fun hb6 => ?_) (fun hb6 => ?_)
    · replace h := h.1 hb6
      refine qZ (rZ (wZ rg (o_iface (by rw [td83]; trivial) (v := .int .i64 2) rfl (asZ (.iface 83 (.int .i64 2)) rfl (nZ ?_)))))
      refine Vc.ret' ?_
      refine res_tmp (v := .iface 83 (.int .i64 2)) rfl (res_nil ?_)
      show Gives _ (.iface 83 (.int .i64 2)) _
      exact gives_out hrg (VW.refl _) (hQ _ h)
    replace h := h.2 hb6
    refine Vc.skip' ?_
    refine qZ (rZ (asZ .niface rfl (nZ ?_)))
    refine Vc.ret' ?_
    refine res_tmp (v := .niface) rfl (res_nil ?_)
    show Gives _ .niface _
    exact gives_out hrg (VW.refl _) (hQ _ h)
  refine rZ ?_
  refine wZ rg (o_faP td25 rfl rfl (by rw [sz3]; decide) rfl (wZ rg (o_loadB1 (atL (k := 1) rfl) sz3 ag3 rfl rfl (v := .int .i64 d.Root) rfl (wZ rg (o_lss rfl rfl (mvZ (.bool (decide (d.Root < 0))) rfl ?_))))))
  refine Wl.guard rfl rfl (fun hb7 => ?_) (fun hb7 => ?_)
  · replace h := h.2 hb7
    refine wZ rg (o_faP td25 rfl rfl (by rw [sz3]; decide) rfl ?_)
    refine Wl.guardT rfl rfl hb7 ?_
    refine wZ rg (o_loadB1 (atL (k := 1) rfl) sz3 ag3 rfl rfl (v := .int .i64 d.Root) rfl ?_)
    refine Wl.guardT rfl rfl hb7 ?_
    refine wZ rg (o_faP td25 rfl rfl (by rw [sz23]; decide) rfl ?_)
    refine Wl.guardT rfl rfl hb7 ?_
    refine wZ rg (o_loadB1 (atL (k := 1) rfl) sz23 ag23 rfl rfl (v := eL eDNode d.Nodes) rfl ?_)
    refine Wl.guardT rfl rfl hb7 ?_
    refine wZ rg (o_len td23 rfl ?_)
    refine Wl.guardT rfl rfl hb7 ?_
    refine wZ rg (o_addG rfl rfl h.1 ?_)
    replace h := h.2
    refine Wl.guardT rfl rfl hb7 ?_
    refine wZ rg (o_gtr rfl rfl (wZ rg (o_pickF rfl hb7 (v := .bool (decide ((1 + (d.Nodes.length : Int)) < d.Root))) rfl (asZ (.bool (decide ((1 + (d.Nodes.length : Int)) < d.Root))) rfl (nZ ?_)))))
    exact ⟨((decide ((1 + (d.Nodes.length : Int)) < d.Root)), g1), (canon (fc vr (fc vr (fn))) (sc rfl (sn))), h⟩
  replace h := h.1 hb7
  refine Wl.guardF rfl rfl hb7 rfl ?_
  refine Wl.guardF rfl rfl hb7 rfl ?_
  refine Wl.guardF rfl rfl hb7 rfl ?_
  refine Wl.guardF rfl rfl hb7 rfl ?_
  refine Wl.guardF rfl rfl hb7 rfl ?_
  refine Wl.guardF rfl rfl hb7 rfl ?_
  refine wZ rg (o_pickT rfl hb7 (v := .bool true) rfl (asZ (.bool true) rfl (nZ ?_)))
  exact ⟨(true, g1), (canon (fc vr (fc vr (fn))) (sc rfl (sn))), h⟩
end Go.Proofs.Ytllegjdggcmgaaa
/- Walks of functions. Conditions: none. -/
namespace Go.Proofs.Ytllegjdggcmgaaa
open Go.Gg
set_option maxRecDepth 100000
theorem diagram_Value_ctr {d : GDiagram} {state : Int} {Q : Bool → Option Int → Prop} {S : St} {R : AV → St → Prop} (h : diagram_Value_W d state Q) (hQ : ∀ r1 r2, Q r1 r2 → R (.tuple [AV.bool r1, eErr 83 r2]) S) :
    Ctr Try.prog 57 [eDiagram d, AV.int .i64 state] S R := by
  unfold diagram_Value_W at h
  refine enterT Try.func57 rfl Try.ntmps57 Try.results57 (by kernel_rfl) (fun rg hrg => ?_)
  refine qZ (rZ (wZ rg (o_box (v := eDiagram d) rfl rfl (kk := 3) rfl (by decide) (fun g1 => (asZ (.bool false) rfl (asZ .niface rfl (nZ (qZ (qZ (rZ (wZ rg (o_loadBA (atL (k := 2) rfl) sz25 (by decide) ag25 rfl rfl (v := eDiagram d) rfl (wZ rg (o_call (us := [eDiagram d]) rfl (vl' vr (vn)) (diagram_Check_ctr h fun err h => (asZ (eErr 83 err) rfl (nZ (qZ (rZ (mvZ (eErr 83 err) rfl ?_))))))))))))))))))))
  refine wZ rg (o_isnon td29 (E := 83) rfl rfl rfl (nZ ?_))
  refine Vc.cond' rfl (fun hb => ?_) (fun hb => ?_)
  · replace h := h.1 hb
    refine qZ (rZ (mvZ (eErr 83 err) rfl (asZ (.bool false) rfl (asZ (eErr 83 err) rfl (nZ ?_)))))
    refine Vc.ret' ?_
    refine res_tmp (v := .bool false) rfl (res_tmp (v := eErr 83 err) rfl (res_nil ?_))
    show Gives _ (.tuple [.bool false, eErr 83 err]) _
    exact gives_out hrg (VW.tupL (vl' vr (vl' vr (vn)))) (hQ _ _ h)
  replace h := h.2 hb
  refine Vc.skip' ?_
  refine qZ ?_
  obtain ⟨J, h, hJ⟩ := h
  refine Vc.join' (σ := ((Bool) × (Nat))) (fun y => J y.1) (fun y => envOf [(1, .int .i64 state), (2, .ptr rg 2 y.2 0 0), (23, .bool y.1)]) (fun y => stL S rg [(2, .arr 3 [eDiagram d], y.2)]) (fun y h => ?_) ?_
  · obtain ⟨x, g2⟩ := y
    replace h := hJ x h
    show Vc _ _ _ _ (envOf [(1, .int .i64 state), (2, .ptr rg 2 g2 0 0), (23, .bool x)]) (stL S rg [(2, .arr 3 [eDiagram d], g2)])
    refine Vc.cond' rfl (fun hb1 => ?_) (fun hb1 => ?_)
    · replace h := h.1 hb1
      refine qZ (rZ (wZ rg (o_iface (by rw [td83]; trivial) (v := .int .i64 3) rfl (asZ (.bool false) rfl (asZ (.iface 83 (.int .i64 3)) rfl (nZ ?_))))))
      refine Vc.ret' ?_
      refine res_tmp (v := .bool false) rfl (res_tmp (v := .iface 83 (.int .i64 3)) rfl (res_nil ?_))
      show Gives _ (.tuple [.bool false, .iface 83 (.int .i64 3)]) _
      exact gives_out hrg (VW.tupL (vl' vr (vl' vr (vn)))) (hQ _ _ h)
    replace h := h.2 hb1
    refine Vc.skip' ?_
    refine qZ (rZ (wZ rg (o_faP td25 rfl rfl (by rw [sz3]; decide) rfl (wZ rg (o_loadB1 (atL (k := 2) rfl) sz3 ag3 rfl rfl (v := .int .i64 d.Root) rfl (asZ (.int .i64 d.Root) rfl (nZ (qZ ?_))))))))
    refine Vc.blk ?_
    obtain ⟨I, μ, h0, hI⟩ := h
    refine Vc.loop' (σ := (Int)) (fun y => I y) (fun y => μ y) (fun y => envOf [(1, .int .i64 state), (2, .ptr rg 2 g2 0 0), (7, .int .i64 y)]) (fun y => stL S rg [(2, .arr 3 [eDiagram d], g2)]) d.Root (canon (fc vr (fc vr (fc vr (fn)))) (sc rfl (sn))) h0 (fun r h => ?_)
    replace h := hI r h
    show Vc _ _ _ _ (envOf [(1, .int .i64 state), (2, .ptr rg 2 g2 0 0), (7, .int .i64 r)]) (stL S rg [(2, .arr 3 [eDiagram d], g2)])
    refine qZ (qZ (rZ (mvZ (.int .i64 r) rfl (wZ rg (o_geq rfl rfl (nZ ?_))))))
    refine Vc.cond' rfl (fun hb2 => ?_) (fun hb2 => ?_)
    · replace h := h.1 hb2
      refine Vc.skip' ?_
      refine Vc.blk ?_
      refine qZ (rZ (wZ rg (o_faP td25 rfl rfl (by rw [sz23]; decide) rfl (wZ rg (o_loadB1 (atL (k := 2) rfl) sz23 ag23 rfl rfl (v := eL eDNode d.Nodes) rfl (mvZ (.int .i64 r) rfl (wZ rg (o_subG rfl rfl h.1 ?_))))))))
      replace h := h.2
      refine wZ rg (o_idxL td23 sz134 (by decide) (fun _ => rfl) rfl rfl h.1 ?_)
      replace h := h.2
      refine wZ rg (o_loadIA sz134 (by decide) ag134 rfl rfl (v := eDNode (at' d.Nodes (r - 2))) rfl (wZ rg (o_alloc zav134 ok134 (kk := 3) rfl (fun g3 => (wZ rg (o_storeB (atL (k := 8) rfl) sz134 (by decide) rfl (w := eDNode (at' d.Nodes (r - 2))) rfl rfl rfl (v := eDNode (at' d.Nodes (r - 2))) rfl setL (nZ (qZ (rZ (mvZ (.int .i64 state) rfl (wZ rg (o_faP td134 rfl rfl (by rw [sz3]; decide) rfl ?_))))))))))))
      refine wZ rg (o_loadB1 (atL (k := 8) rfl) sz3 ag3 rfl rfl (v := .int .i64 ((at' d.Nodes (r - 2)).Var)) rfl (wZ rg (o_shr rfl rfl h.1 ?_)))
      replace h := h.2
      refine wZ rg (o_and rfl rfl (wZ rg (o_eql rfl rfl (nZ ?_))))
      refine Vc.cond' rfl (fun hb3 => ?_) (fun hb3 => ?_)
      · replace h := h.1 hb3
        refine rZ ?_
        refine wZ rg (o_faP td134 rfl rfl (by rw [sz3]; decide) rfl (wZ rg (o_loadB1 (atL (k := 8) rfl) sz3 ag3 rfl rfl (v := .int .i64 ((at' d.Nodes (r - 2)).Hi)) rfl (asZ (.int .i64 ((at' d.Nodes (r - 2)).Hi)) rfl (nZ ?_)))))
        exact ⟨(at' d.Nodes (r - 2)).Hi, (canon (fc vr (fc vr (fc vr (fn)))) (sc rfl (sn))), h⟩
      replace h := h.2 hb3
      refine rZ ?_
      refine wZ rg (o_faP td134 rfl rfl (by rw [sz3]; decide) rfl (wZ rg (o_loadB1 (atL (k := 8) rfl) sz3 ag3 rfl rfl (v := .int .i64 ((at' d.Nodes (r - 2)).Lo)) rfl (asZ (.int .i64 ((at' d.Nodes (r - 2)).Lo)) rfl (nZ ?_)))))
      exact ⟨(at' d.Nodes (r - 2)).Lo, (canon (fc vr (fc vr (fc vr (fn)))) (sc rfl (sn))), h⟩
    replace h := h.2 hb2
    refine Vc.exit' (exB_self ?_)
    refine qZ (rZ (mvZ (.int .i64 r) rfl (wZ rg (o_eql rfl rfl (asZ (.bool (r == 1)) rfl (asZ .niface rfl (nZ ?_)))))))
    refine Vc.ret' ?_
    refine res_tmp (v := .bool (r == 1)) rfl (res_tmp (v := .niface) rfl (res_nil ?_))
    show Gives _ (.tuple [.bool (r == 1), .niface]) _
    exact gives_out hrg (VW.tupL (vl' vr (vl' vr (vn)))) (hQ _ _ h)
  refine rZ ?_
  refine mvZ (.int .i64 state) rfl (wZ rg (o_lss rfl rfl (mvZ (.bool (decide (state < 0))) rfl ?_)))
  refine Wl.guard rfl rfl (fun hb4 => ?_) (fun hb4 => ?_)
  · replace h := h.2 hb4
    refine mvZ (.int .i64 state) rfl ?_
    refine Wl.guardT rfl rfl hb4 ?_
    refine wZ rg (o_faP td25 rfl rfl (by rw [sz22]; decide) rfl ?_)
    refine Wl.guardT rfl rfl hb4 ?_
    refine wZ rg (o_loadB1 (atL (k := 2) rfl) sz22 ag22 rfl rfl (v := eL (AV.int .i64) d.Order) rfl ?_)
    refine Wl.guardT rfl rfl hb4 ?_
    refine wZ rg (o_len td22 rfl ?_)
    refine Wl.guardT rfl rfl hb4 ?_
    refine wZ rg (o_shlG rfl rfl h.1 ?_)
    replace h := h.2
    refine Wl.guardT rfl rfl hb4 ?_
    refine wZ rg (o_geq rfl rfl (wZ rg (o_pickF rfl hb4 (v := .bool (decide ((1 * 2 ^ (Int.toNat (d.Order.length : Int))) ≤ state))) rfl (nZ ?_))))
    exact ⟨((decide ((1 * 2 ^ (Int.toNat (d.Order.length : Int))) ≤ state)), g1), (canon (fc vr (fc vr (fc vr (fn)))) (sc rfl (sn))), h⟩
  replace h := h.1 hb4
  refine Wl.guardF rfl rfl hb4 rfl ?_
  refine Wl.guardF rfl rfl hb4 rfl ?_
  refine Wl.guardF rfl rfl hb4 rfl ?_
  refine Wl.guardF rfl rfl hb4 rfl ?_
  refine Wl.guardF rfl rfl hb4 rfl ?_
  refine wZ rg (o_pickT rfl hb4 (v := .bool true) rfl (nZ ?_))
  exact ⟨(true, g1), (canon (fc vr (fc vr (fc vr (fn)))) (sc rfl (sn))), h⟩
end Go.Proofs.Ytllegjdggcmgaaa
/- Walks of functions. Conditions: none. -/
namespace Go.Proofs.Ytllegjdggcmgaaa
open Go.Gg
set_option maxRecDepth 100000
theorem formula_arguments_ctr {kind : Int} {n : Int} {Q : Bool → Prop} {S : St} {R : AV → St → Prop} (h : formula_arguments_W kind n Q) (hQ : ∀ r1, Q r1 → R (AV.bool r1) S) :
    Ctr Try.prog 223 [AV.int .i64 kind, AV.int .i64 n] S R := by
  unfold formula_arguments_W at h
  refine enterT Try.func223 rfl Try.ntmps223 Try.results223 (by kernel_rfl) (fun rg hrg => ?_)
  refine qZ (rZ (asZ (.bool false) rfl (nZ (qZ (qZ (rZ (mvZ (.int .i64 kind) rfl (nZ ?_))))))))
  refine Vc.blk ?_
  refine qZ (rZ (wZ rg (o_eql rfl rfl (asZ (.bool (kind == 0)) rfl (nZ ?_)))))
  refine Vc.cond' rfl (fun hb => ?_) (fun hb => ?_)
  · replace h := h.1 hb
    refine qZ (rZ (mvZ (.int .i64 n) rfl (wZ rg (o_eql rfl rfl (asZ (.bool (n == 0)) rfl (nZ ?_))))))
    refine Vc.ret' ?_
    refine res_tmp (v := .bool (n == 0)) rfl (res_nil ?_)
    show Gives _ (.bool (n == 0)) _
    exact gives_out hrg (VW.refl _) (hQ _ h)
  replace h := h.2 hb
  refine qZ (rZ (wZ rg (o_eql rfl rfl (asZ (.bool (kind == 1)) rfl (nZ ?_)))))
  refine Vc.cond' rfl (fun hb1 => ?_) (fun hb1 => ?_)
  · replace h := h.1 hb1
    refine qZ (rZ (mvZ (.int .i64 n) rfl (wZ rg (o_eql rfl rfl (asZ (.bool (n == 1)) rfl (nZ ?_))))))
    refine Vc.ret' ?_
    refine res_tmp (v := .bool (n == 1)) rfl (res_nil ?_)
    show Gives _ (.bool (n == 1)) _
    exact gives_out hrg (VW.refl _) (hQ _ h)
  replace h := h.2 hb1
  refine Vc.skip' ?_
  refine qZ (rZ (mvZ (.int .i64 n) rfl (wZ rg (o_geq rfl rfl (mvZ (.bool (decide (1 ≤ n))) rfl ?_)))))
  refine Wl.guard rfl rfl (fun hb2 => ?_) (fun hb2 => ?_)
  · replace h := h.1 hb2
    refine mvZ (.int .i64 n) rfl ?_
    refine Wl.guardT rfl rfl hb2 ?_
    refine wZ rg (o_leq rfl rfl (wZ rg (o_pickT rfl hb2 (v := .bool (decide (n ≤ 16))) rfl (asZ (.bool (decide (n ≤ 16))) rfl (nZ ?_)))))
    refine Vc.ret' ?_
    refine res_tmp (v := .bool (decide (n ≤ 16))) rfl (res_nil ?_)
    show Gives _ (.bool (decide (n ≤ 16))) _
    exact gives_out hrg (VW.refl _) (hQ _ h)
  replace h := h.2 hb2
  refine Wl.guardF rfl rfl hb2 rfl ?_
  refine wZ rg (o_pickF rfl hb2 (v := .bool false) rfl (asZ (.bool false) rfl (nZ ?_)))
  refine Vc.ret' ?_
  refine res_tmp (v := .bool false) rfl (res_nil ?_)
  show Gives _ (.bool false) _
  exact gives_out hrg (VW.refl _) (hQ _ h)
theorem formula_checkNode_ctr {f : GFormula} {i : Int} {Q : Option Int → Prop} {S : St} {R : AV → St → Prop} (h : formula_checkNode_W f i Q) (hQ : ∀ r1, Q r1 → R (eErr 83 r1) S) :
    Ctr Try.prog 200 [eFormula f, AV.int .i64 i] S R := by
  unfold formula_checkNode_W at h
  refine enterT Try.func200 rfl Try.ntmps200 Try.results200 (by kernel_rfl) (fun rg hrg => ?_)
  refine qZ (rZ (wZ rg (o_box (v := eFormula f) rfl rfl (kk := 3) rfl (by decide) (fun g1 => (asZ .niface rfl (nZ (qZ (rZ (wZ rg (o_faP td68 rfl rfl (by rw [sz66]; decide) rfl (wZ rg (o_loadB1 (atL (k := 2) rfl) sz66 ag66 rfl rfl (v := eL eNode f.Nodes) rfl (mvZ (.int .i64 i) rfl (wZ rg (o_idxL td66 sz154 (by decide) (fun _ => rfl) rfl rfl h.1 ?_)))))))))))))))
  replace h := h.2
  refine wZ rg (o_loadIA sz154 (by decide) ag154 rfl rfl (v := eNode (at' f.Nodes i)) rfl (wZ rg (o_alloc zav154 ok154 (kk := 3) rfl (fun g2 => (wZ rg (o_storeB (atL (k := 5) rfl) sz154 (by decide) rfl (w := eNode (at' f.Nodes i)) rfl rfl rfl (v := eNode (at' f.Nodes i)) rfl setL (nZ (qZ ?_))))))))
  obtain ⟨J, h, hJ⟩ := h
  refine Vc.join' (σ := ((Bool) × (Nat × Nat))) (fun y => J y.1) (fun y => envOf [(1, .int .i64 i), (2, .ptr rg 2 y.2.1 0 0), (5, .ptr rg 5 y.2.2 0 0), (20, .bool y.1)]) (fun y => stL S rg [(2, .arr 3 [eFormula f], y.2.1), (5, .arr 3 [eNode (at' f.Nodes i)], y.2.2)]) (fun y h => ?_) ?_
  · obtain ⟨x, ⟨g3, g4⟩⟩ := y
    replace h := hJ x h
    show Vc _ _ _ _ (envOf [(1, .int .i64 i), (2, .ptr rg 2 g3 0 0), (5, .ptr rg 5 g4 0 0), (20, .bool x)]) (stL S rg [(2, .arr 3 [eFormula f], g3), (5, .arr 3 [eNode (at' f.Nodes i)], g4)])
    refine Vc.cond' rfl (fun hb => ?_) (fun hb => ?_)
    · replace h := h.1 hb
      refine qZ (rZ (wZ rg (o_iface (by rw [td83]; trivial) (v := .int .i64 7) rfl (asZ (.iface 83 (.int .i64 7)) rfl (nZ ?_)))))
      refine Vc.ret' ?_
      refine res_tmp (v := .iface 83 (.int .i64 7)) rfl (res_nil ?_)
      show Gives _ (.iface 83 (.int .i64 7)) _
      exact gives_out hrg (VW.refl _) (hQ _ h)
    replace h := h.2 hb
    refine Vc.skip' ?_
    refine qZ (qZ (rZ (wZ rg (o_faP td154 rfl rfl (by rw [sz3]; decide) rfl (wZ rg (o_loadB1 (atL (k := 5) rfl) sz3 ag3 rfl rfl (v := .int .i64 ((at' f.Nodes i).Kind)) rfl (wZ rg (o_faP td154 rfl rfl (by rw [sz22]; decide) rfl (wZ rg (o_loadB1 (atL (k := 5) rfl) sz22 ag22 rfl rfl (v := eL (AV.int .i64) ((at' f.Nodes i).Args)) rfl (wZ rg (o_len td22 rfl ?_))))))))))))
    refine wZ rg (o_call (us := [AV.int .i64 ((at' f.Nodes i).Kind), AV.int .i64 (((at' f.Nodes i).Args).length : Int)]) rfl (vl' vr (vl' vr (vn))) (formula_arguments_ctr h fun r h => (wZ rg (o_not rfl (nZ ?_)))))
    refine Vc.cond' rfl (fun hb1 => ?_) (fun hb1 => ?_)
    · replace h := h.1 hb1
      refine qZ (rZ (wZ rg (o_iface (by rw [td83]; trivial) (v := .int .i64 11) rfl (asZ (.iface 83 (.int .i64 11)) rfl (nZ ?_)))))
      refine Vc.ret' ?_
      refine res_tmp (v := .iface 83 (.int .i64 11)) rfl (res_nil ?_)
      show Gives _ (.iface 83 (.int .i64 11)) _
      exact gives_out hrg (VW.refl _) (hQ _ h)
    replace h := h.2 hb1
    refine Vc.skip' ?_
    refine qZ (qZ (rZ (wZ rg (o_faP td154 rfl rfl (by rw [sz22]; decide) rfl (wZ rg (o_loadB1 (atL (k := 5) rfl) sz22 ag22 rfl rfl (v := eL (AV.int .i64) ((at' f.Nodes i).Args)) rfl (wZ rg (o_len td22 rfl (mvZ (.int .i64 0) rfl (nZ ?_))))))))))
    refine Vc.blk ?_
    obtain ⟨I, μ, h0, hI⟩ := h
    refine Vc.loop' (σ := ((Int) × (Nat × Nat))) (fun y => I y.1) (fun y => μ y.1) (fun y => envOf [(1, .int .i64 i), (2, .ptr rg 2 y.2.1 0 0), (5, .ptr rg 5 y.2.2 0 0), (31, eL (AV.int .i64) ((at' f.Nodes i).Args)), (32, .int .i64 (((at' f.Nodes i).Args).length : Int)), (33, .int .i64 y.1)]) (fun y => stL S rg [(2, .arr 3 [eFormula f], y.2.1), (5, .arr 3 [eNode (at' f.Nodes i)], y.2.2)]) (0, (g3, g4)) (canon (fc vr (fc vr (fc vr (fc vr (fc vr (fc vr (fn))))))) (sc rfl (sc rfl (sn)))) h0 (fun y h => ?_)
    obtain ⟨x1, ⟨g5, g6⟩⟩ := y
    replace h := hI x1 h
    show Vc _ _ _ _ (envOf [(1, .int .i64 i), (2, .ptr rg 2 g5 0 0), (5, .ptr rg 5 g6 0 0), (31, eL (AV.int .i64) ((at' f.Nodes i).Args)), (32, .int .i64 (((at' f.Nodes i).Args).length : Int)), (33, .int .i64 x1)]) (stL S rg [(2, .arr 3 [eFormula f], g5), (5, .arr 3 [eNode (at' f.Nodes i)], g6)])
    refine qZ (rZ (wZ rg (o_lss rfl rfl (nZ (qZ ?_)))))
    refine Vc.cond' rfl (fun hb2 => ?_) (fun hb2 => ?_)
    · replace h := h.1 hb2
      refine Vc.skip' ?_
      refine qZ ?_
      refine Vc.blk ?_
      refine qZ (rZ (wZ rg (o_idxL td22 sz3 (by decide) (fun _ => rfl) rfl rfl h.1 ?_)))
      replace h := h.2
      refine wZ rg (o_loadI1 sz3 ag3 rfl rfl (v := .int .i64 (at' ((at' f.Nodes i).Args) x1)) rfl (asZ (.int .i64 (at' ((at' f.Nodes i).Args) x1)) rfl (nZ ?_)))
      obtain ⟨J, h, hJ⟩ := h
      refine Vc.join' (σ := ((Bool) × (Nat × Nat))) (fun y => J y.1) (fun y => envOf [(1, .int .i64 i), (2, .ptr rg 2 y.2.1 0 0), (5, .ptr rg 5 y.2.2 0 0), (31, eL (AV.int .i64) ((at' f.Nodes i).Args)), (32, .int .i64 (((at' f.Nodes i).Args).length : Int)), (33, .int .i64 x1), (46, .bool y.1)]) (fun y => stL S rg [(2, .arr 3 [eFormula f], y.2.1), (5, .arr 3 [eNode (at' f.Nodes i)], y.2.2)]) (fun y h => ?_) ?_
      · obtain ⟨x2, ⟨g7, g8⟩⟩ := y
        replace h := hJ x2 h
        show Vc _ _ _ _ (envOf [(1, .int .i64 i), (2, .ptr rg 2 g7 0 0), (5, .ptr rg 5 g8 0 0), (31, eL (AV.int .i64) ((at' f.Nodes i).Args)), (32, .int .i64 (((at' f.Nodes i).Args).length : Int)), (33, .int .i64 x1), (46, .bool x2)]) (stL S rg [(2, .arr 3 [eFormula f], g7), (5, .arr 3 [eNode (at' f.Nodes i)], g8)])
        refine Vc.cond' rfl (fun hb3 => ?_) (fun hb3 => ?_)
        · replace h := h.1 hb3
          refine qZ (rZ (wZ rg (o_iface (by rw [td83]; trivial) (v := .int .i64 10) rfl (asZ (.iface 83 (.int .i64 10)) rfl (nZ ?_)))))
          refine Vc.ret' ?_
          refine res_tmp (v := .iface 83 (.int .i64 10)) rfl (res_nil ?_)
          show Gives _ (.iface 83 (.int .i64 10)) _
          exact gives_out hrg (VW.refl _) (hQ _ h)
        replace h := h.2 hb3
        refine Vc.skip' ?_
        refine rZ ?_
        refine wZ rg (o_addG rfl rfl h.1 ?_)
        replace h := h.2
        refine mvZ (.int .i64 (x1 + 1)) rfl (nZ ?_)
        exact ⟨((x1 + 1), (g7, g8)), (canon (fc vr (fc vr (fc vr (fc vr (fc vr (fc vr (fn))))))) (sc rfl (sc rfl (sn)))), h⟩
      refine rZ ?_
      refine mvZ (.int .i64 (at' ((at' f.Nodes i).Args) x1)) rfl (wZ rg (o_lss rfl rfl (mvZ (.bool (decide ((at' ((at' f.Nodes i).Args) x1) < 0))) rfl ?_)))
      refine Wl.guard rfl rfl (fun hb4 => ?_) (fun hb4 => ?_)
      · replace h := h.2 hb4
        refine mvZ (.int .i64 (at' ((at' f.Nodes i).Args) x1)) rfl ?_
        refine Wl.guardT rfl rfl hb4 ?_
        refine wZ rg (o_faP td68 rfl rfl (by rw [sz3]; decide) rfl ?_)
        refine Wl.guardT rfl rfl hb4 ?_
        refine wZ rg (o_loadB1 (atL (k := 2) rfl) sz3 ag3 rfl rfl (v := .int .i64 f.Vars) rfl ?_)
        refine Wl.guardT rfl rfl hb4 ?_
        refine mvZ (.int .i64 i) rfl ?_
        refine Wl.guardT rfl rfl hb4 ?_
        refine wZ rg (o_addG rfl rfl h.1 ?_)
        replace h := h.2
        refine Wl.guardT rfl rfl hb4 ?_
        refine wZ rg (o_geq rfl rfl (wZ rg (o_pickF rfl hb4 (v := .bool (decide ((f.Vars + i) ≤ (at' ((at' f.Nodes i).Args) x1)))) rfl (nZ ?_))))
        exact ⟨((decide ((f.Vars + i) ≤ (at' ((at' f.Nodes i).Args) x1))), (g5, g6)), (canon (fc vr (fc vr (fc vr (fc vr (fc vr (fc vr (fc vr (fn)))))))) (sc rfl (sc rfl (sn)))), h⟩
      replace h := h.1 hb4
      refine Wl.guardF rfl rfl hb4 rfl ?_
      refine Wl.guardF rfl rfl hb4 rfl ?_
      refine Wl.guardF rfl rfl hb4 rfl ?_
      refine Wl.guardF rfl rfl hb4 rfl ?_
      refine Wl.guardF rfl rfl hb4 rfl ?_
      refine wZ rg (o_pickT rfl hb4 (v := .bool true) rfl (nZ ?_))
      exact ⟨(true, (g5, g6)), (canon (fc vr (fc vr (fc vr (fc vr (fc vr (fc vr (fc vr (fn)))))))) (sc rfl (sc rfl (sn)))), h⟩
    replace h := h.2 hb2
    refine Vc.exit' (exB_self ?_)
    refine qZ (qZ (rZ (wZ rg (o_faP td154 rfl rfl (by rw [sz3]; decide) rfl (wZ rg (o_loadB1 (atL (k := 5) rfl) sz3 ag3 rfl rfl (v := .int .i64 ((at' f.Nodes i).Kind)) rfl (nZ ?_)))))))
    refine Vc.blk ?_
    refine qZ (rZ (wZ rg (o_eql rfl rfl (asZ (.bool ((at' f.Nodes i).Kind == 0)) rfl (nZ ?_)))))
    refine Vc.cond' rfl (fun hb5 => ?_) (fun hb5 => ?_)
    · replace h := h.1 hb5
      obtain ⟨J, h, hJ⟩ := h
      refine Vc.join' (σ := (Bool)) (fun y => J y) (fun y => envOf [(64, .bool y)]) (fun y => stL S rg []) (fun x3 h => ?_) ?_
      · replace h := hJ x3 h
        show Vc _ _ _ _ (envOf [(64, .bool x3)]) (stL S rg [])
        refine Vc.cond' rfl (fun hb6 => ?_) (fun hb6 => ?_)
        · replace h := h.1 hb6
          refine qZ (rZ (wZ rg (o_iface (by rw [td83]; trivial) (v := .int .i64 3) rfl (asZ (.iface 83 (.int .i64 3)) rfl (nZ ?_)))))
          refine Vc.ret' ?_
          refine res_tmp (v := .iface 83 (.int .i64 3)) rfl (res_nil ?_)
          show Gives _ (.iface 83 (.int .i64 3)) _
          exact gives_out hrg (VW.refl _) (hQ _ h)
        replace h := h.2 hb6
        refine Vc.skip' ?_
        refine qZ (rZ (asZ .niface rfl (nZ ?_)))
        refine Vc.ret' ?_
        refine res_tmp (v := .niface) rfl (res_nil ?_)
        show Gives _ .niface _
        exact gives_out hrg (VW.refl _) (hQ _ h)
      refine rZ ?_
      refine wZ rg (o_faP td154 rfl rfl (by rw [sz3]; decide) rfl (wZ rg (o_loadB1 (atL (k := 5) rfl) sz3 ag3 rfl rfl (v := .int .i64 ((at' f.Nodes i).K)) rfl (wZ rg (o_neq rfl rfl (mvZ (.bool ((at' f.Nodes i).K != 0)) rfl ?_))))))
      refine Wl.guard rfl rfl (fun hb7 => ?_) (fun hb7 => ?_)
      · replace h := h.1 hb7
        refine wZ rg (o_faP td154 rfl rfl (by rw [sz3]; decide) rfl ?_)
        refine Wl.guardT rfl rfl hb7 ?_
        refine wZ rg (o_loadB1 (atL (k := 5) rfl) sz3 ag3 rfl rfl (v := .int .i64 ((at' f.Nodes i).K)) rfl ?_)
        refine Wl.guardT rfl rfl hb7 ?_
        refine wZ rg (o_neq rfl rfl (wZ rg (o_pickT rfl hb7 (v := .bool ((at' f.Nodes i).K != 1)) rfl (nZ ?_))))
        exact ⟨((at' f.Nodes i).K != 1), (canon (fc vr (fn)) (sn)), h⟩
      replace h := h.2 hb7
      refine Wl.guardF rfl rfl hb7 rfl ?_
      refine Wl.guardF rfl rfl hb7 rfl ?_
      refine wZ rg (o_pickF rfl hb7 (v := .bool false) rfl (nZ ?_))
      exact ⟨false, (canon (fc vr (fn)) (sn)), h⟩
    replace h := h.2 hb5
    refine qZ (rZ (wZ rg (o_eql rfl rfl (asZ (.bool ((at' f.Nodes i).Kind == 4)) rfl (nZ ?_)))))
    refine Vc.cond' rfl (fun hb8 => ?_) (fun hb8 => ?_)
    · replace h := h.1 hb8
      obtain ⟨J, h, hJ⟩ := h
      refine Vc.join' (σ := (Bool)) (fun y => J y) (fun y => envOf [(78, .bool y)]) (fun y => stL S rg []) (fun x4 h => ?_) ?_
      · replace h := hJ x4 h
        show Vc _ _ _ _ (envOf [(78, .bool x4)]) (stL S rg [])
        refine Vc.cond' rfl (fun hb9 => ?_) (fun hb9 => ?_)
        · replace h := h.1 hb9
          refine qZ (rZ (wZ rg (o_iface (by rw [td83]; trivial) (v := .int .i64 3) rfl (asZ (.iface 83 (.int .i64 3)) rfl (nZ ?_)))))
          refine Vc.ret' ?_
          refine res_tmp (v := .iface 83 (.int .i64 3)) rfl (res_nil ?_)
          show Gives _ (.iface 83 (.int .i64 3)) _
          exact gives_out hrg (VW.refl _) (hQ _ h)
        replace h := h.2 hb9
        refine Vc.skip' ?_
        refine qZ (rZ (asZ .niface rfl (nZ ?_)))
        refine Vc.ret' ?_
        refine res_tmp (v := .niface) rfl (res_nil ?_)
        show Gives _ .niface _
        exact gives_out hrg (VW.refl _) (hQ _ h)
      refine rZ ?_
      refine wZ rg (o_faP td154 rfl rfl (by rw [sz3]; decide) rfl (wZ rg (o_loadB1 (atL (k := 5) rfl) sz3 ag3 rfl rfl (v := .int .i64 ((at' f.Nodes i).K)) rfl (wZ rg (o_lss rfl rfl (mvZ (.bool (decide ((at' f.Nodes i).K < 1))) rfl ?_))))))
      refine Wl.guard rfl rfl (fun hb10 => ?_) (fun hb10 => ?_)
      · replace h := h.2 hb10
        refine wZ rg (o_faP td154 rfl rfl (by rw [sz3]; decide) rfl ?_)
        refine Wl.guardT rfl rfl hb10 ?_
        refine wZ rg (o_loadB1 (atL (k := 5) rfl) sz3 ag3 rfl rfl (v := .int .i64 ((at' f.Nodes i).K)) rfl ?_)
        refine Wl.guardT rfl rfl hb10 ?_
        refine wZ rg (o_faP td154 rfl rfl (by rw [sz22]; decide) rfl ?_)
        refine Wl.guardT rfl rfl hb10 ?_
        refine wZ rg (o_loadB1 (atL (k := 5) rfl) sz22 ag22 rfl rfl (v := eL (AV.int .i64) ((at' f.Nodes i).Args)) rfl ?_)
        refine Wl.guardT rfl rfl hb10 ?_
        refine wZ rg (o_len td22 rfl ?_)
        refine Wl.guardT rfl rfl hb10 ?_
        refine wZ rg (o_gtr rfl rfl (wZ rg (o_pickF rfl hb10 (v := .bool (decide ((((at' f.Nodes i).Args).length : Int) < (at' f.Nodes i).K))) rfl (nZ ?_))))
        exact ⟨(decide ((((at' f.Nodes i).Args).length : Int) < (at' f.Nodes i).K)), (canon (fc vr (fn)) (sn)), h⟩
      replace h := h.1 hb10
      refine Wl.guardF rfl rfl hb10 rfl ?_
      refine Wl.guardF rfl rfl hb10 rfl ?_
      refine Wl.guardF rfl rfl hb10 rfl ?_
      refine Wl.guardF rfl rfl hb10 rfl ?_
      refine Wl.guardF rfl rfl hb10 rfl ?_
      refine wZ rg (o_pickT rfl hb10 (v := .bool true) rfl (nZ ?_))
      exact ⟨true, (canon (fc vr (fn)) (sn)), h⟩
    replace h := h.2 hb8
    refine qZ (rZ (wZ rg (o_faP td154 rfl rfl (by rw [sz3]; decide) rfl (wZ rg (o_loadB1 (atL (k := 5) rfl) sz3 ag3 rfl rfl (v := .int .i64 ((at' f.Nodes i).K)) rfl (wZ rg (o_neq rfl rfl (nZ ?_))))))))
    refine Vc.cond' rfl (fun hb11 => ?_) (fun hb11 => ?_)
    · replace h := h.1 hb11
      refine qZ (rZ (wZ rg (o_iface (by rw [td83]; trivial) (v := .int .i64 2) rfl (asZ (.iface 83 (.int .i64 2)) rfl (nZ ?_)))))
      refine Vc.ret' ?_
      refine res_tmp (v := .iface 83 (.int .i64 2)) rfl (res_nil ?_)
      show Gives _ (.iface 83 (.int .i64 2)) _
      exact gives_out hrg (VW.refl _) (hQ _ h)
    replace h := h.2 hb11
    refine Vc.skip' ?_
    refine qZ (rZ (asZ .niface rfl (nZ ?_)))
    refine Vc.ret' ?_
    refine res_tmp (v := .niface) rfl (res_nil ?_)
    show Gives _ .niface _
    exact gives_out hrg (VW.refl _) (hQ _ h)
  refine rZ ?_
  refine wZ rg (o_faP td154 rfl rfl (by rw [sz3]; decide) rfl (wZ rg (o_loadB1 (atL (k := 5) rfl) sz3 ag3 rfl rfl (v := .int .i64 ((at' f.Nodes i).Kind)) rfl (wZ rg (o_lss rfl rfl (mvZ (.bool (decide ((at' f.Nodes i).Kind < 0))) rfl ?_))))))
  refine Wl.guard rfl rfl (fun hb12 => ?_) (fun hb12 => ?_)
  · replace h := h.2 hb12
    refine wZ rg (o_faP td154 rfl rfl (by rw [sz3]; decide) rfl ?_)
    refine Wl.guardT rfl rfl hb12 ?_
    refine wZ rg (o_loadB1 (atL (k := 5) rfl) sz3 ag3 rfl rfl (v := .int .i64 ((at' f.Nodes i).Kind)) rfl ?_)
    refine Wl.guardT rfl rfl hb12 ?_
    refine wZ rg (o_gtr rfl rfl (wZ rg (o_pickF rfl hb12 (v := .bool (decide (5 < (at' f.Nodes i).Kind))) rfl (nZ ?_))))
    exact ⟨((decide (5 < (at' f.Nodes i).Kind)), (g1, g2)), (canon (fc vr (fc vr (fc vr (fc vr (fn))))) (sc rfl (sc rfl (sn)))), h⟩
  replace h := h.1 hb12
  refine Wl.guardF rfl rfl hb12 rfl ?_
  refine Wl.guardF rfl rfl hb12 rfl ?_
  refine wZ rg (o_pickT rfl hb12 (v := .bool true) rfl (nZ ?_))
  exact ⟨(true, (g1, g2)), (canon (fc vr (fc vr (fc vr (fc vr (fn))))) (sc rfl (sc rfl (sn)))), h⟩
theorem formula_Valid_ctr {f : GFormula} {arg : Int} {Q : Bool → Prop} {S : St} {R : AV → St → Prop} (h : formula_Valid_W f arg Q) (hQ : ∀ r1, Q r1 → R (AV.bool r1) S) :
    Ctr Try.prog 201 [eFormula f, AV.int .i64 arg] S R := by
  unfold formula_Valid_W at h
  refine enterT Try.func201 rfl Try.ntmps201 Try.results201 (by kernel_rfl) (fun rg hrg => ?_)
  refine qZ (rZ (wZ rg (o_box (v := eFormula f) rfl rfl (kk := 3) rfl (by decide) (fun g1 => (asZ (.bool false) rfl (nZ (qZ (rZ (wZ rg (o_faP td68 rfl rfl (by rw [sz3]; decide) rfl (wZ rg (o_loadB1 (atL (k := 2) rfl) sz3 ag3 rfl rfl (v := .int .i64 f.Vars) rfl (wZ rg (o_geq rfl rfl (mvZ (.bool (decide (0 ≤ f.Vars))) rfl ?_)))))))))))))))
  refine Wl.guard rfl rfl (fun hb => ?_) (fun hb => ?_)
  · replace h := h.1 hb
    refine mvZ (.int .i64 arg) rfl ?_
    refine Wl.guardT rfl rfl hb ?_
    refine wZ rg (o_geq rfl rfl (wZ rg (o_pickT rfl hb (v := .bool (decide (0 ≤ arg))) rfl (mvZ (.bool (decide (0 ≤ arg))) rfl ?_))))
    refine Wl.guard rfl rfl (fun hb1 => ?_) (fun hb1 => ?_)
    · replace h := h.1 hb1
      refine mvZ (.int .i64 arg) rfl ?_
      refine Wl.guardT rfl rfl hb1 ?_
      refine wZ rg (o_faP td68 rfl rfl (by rw [sz3]; decide) rfl ?_)
      refine Wl.guardT rfl rfl hb1 ?_
      refine wZ rg (o_loadB1 (atL (k := 2) rfl) sz3 ag3 rfl rfl (v := .int .i64 f.Vars) rfl ?_)
      refine Wl.guardT rfl rfl hb1 ?_
      refine wZ rg (o_lss rfl rfl ?_)
      refine Wl.guardT rfl rfl hb1 ?_
      refine mvZ (.bool (decide (arg < f.Vars))) rfl ?_
      refine Wl.guard rfl rfl (fun hb2 => ?_) (fun hb2 => ?_)
      · replace h := h.2 hb2
        refine mvZ (.int .i64 arg) rfl ?_
        refine Wl.guardT rfl rfl hb2 ?_
        refine wZ rg (o_faP td68 rfl rfl (by rw [sz3]; decide) rfl ?_)
        refine Wl.guardT rfl rfl hb2 ?_
        refine wZ rg (o_loadB1 (atL (k := 2) rfl) sz3 ag3 rfl rfl (v := .int .i64 f.Vars) rfl ?_)
        refine Wl.guardT rfl rfl hb2 ?_
        refine wZ rg (o_subG rfl rfl h.1 ?_)
        replace h := h.2
        refine Wl.guardT rfl rfl hb2 ?_
        refine wZ rg (o_faP td68 rfl rfl (by rw [sz66]; decide) rfl ?_)
        refine Wl.guardT rfl rfl hb2 ?_
        refine wZ rg (o_loadB1 (atL (k := 2) rfl) sz66 ag66 rfl rfl (v := eL eNode f.Nodes) rfl ?_)
        refine Wl.guardT rfl rfl hb2 ?_
        refine wZ rg (o_len td66 rfl ?_)
        refine Wl.guardT rfl rfl hb2 ?_
        refine wZ rg (o_lss rfl rfl ?_)
        refine Wl.guardT rfl rfl hb1 ?_
        refine wZ rg (o_pickF rfl hb2 (v := .bool (decide ((arg - f.Vars) < (f.Nodes.length : Int)))) rfl (wZ rg (o_pickT rfl hb1 (v := .bool (decide ((arg - f.Vars) < (f.Nodes.length : Int)))) rfl (asZ (.bool (decide ((arg - f.Vars) < (f.Nodes.length : Int)))) rfl (nZ ?_)))))
        refine Vc.ret' ?_
        refine res_tmp (v := .bool (decide ((arg - f.Vars) < (f.Nodes.length : Int)))) rfl (res_nil ?_)
        show Gives _ (.bool (decide ((arg - f.Vars) < (f.Nodes.length : Int)))) _
        exact gives_out hrg (VW.refl _) (hQ _ h)
      replace h := h.1 hb2
      refine Wl.guardF rfl rfl hb2 rfl ?_
      refine Wl.guardF rfl rfl hb2 rfl ?_
      refine Wl.guardF rfl rfl hb2 rfl ?_
      refine Wl.guardF rfl rfl hb2 rfl ?_
      refine Wl.guardF rfl rfl hb2 rfl ?_
      refine Wl.guardF rfl rfl hb2 rfl ?_
      refine Wl.guardF rfl rfl hb2 rfl ?_
      refine Wl.guardT rfl rfl hb1 ?_
      refine wZ rg (o_pickT rfl hb2 (v := .bool true) rfl (wZ rg (o_pickT rfl hb1 (v := .bool true) rfl (asZ (.bool true) rfl (nZ ?_)))))
      refine Vc.ret' ?_
      refine res_tmp (v := .bool true) rfl (res_nil ?_)
      show Gives _ (.bool true) _
      exact gives_out hrg (VW.refl _) (hQ _ h)
    replace h := h.2 hb1
    refine Wl.guardF rfl rfl hb1 rfl ?_
    refine Wl.guardF rfl rfl hb1 rfl ?_
    refine Wl.guardF rfl rfl hb1 rfl ?_
    refine Wl.guardF rfl rfl hb1 rfl ?_
    refine Wl.guardU rfl rfl ?_
    refine Wl.guardU rfl rfl ?_
    refine Wl.guardU rfl rfl ?_
    refine Wl.guardU rfl rfl ?_
    refine Wl.guardU rfl rfl ?_
    refine Wl.guardU rfl rfl ?_
    refine Wl.guardU rfl rfl ?_
    refine Wl.guardU rfl rfl ?_
    refine Wl.guardF rfl rfl hb1 rfl ?_
    refine wZ rg (o_pickF rfl hb1 (v := .bool false) rfl (asZ (.bool false) rfl (nZ ?_)))
    refine Vc.ret' ?_
    refine res_tmp (v := .bool false) rfl (res_nil ?_)
    show Gives _ (.bool false) _
    exact gives_out hrg (VW.refl _) (hQ _ h)
  replace h := h.2 hb
  refine Wl.guardF rfl rfl hb rfl ?_
  refine wZ rg (o_pickF rfl hb (v := .bool false) rfl (mvZ (.bool false) rfl ?_))
  refine Wl.guardF rfl rfl rfl rfl ?_
  refine Wl.guardF rfl rfl rfl rfl ?_
  refine Wl.guardF rfl rfl rfl rfl ?_
  refine Wl.guardF rfl rfl rfl rfl ?_
  refine Wl.guardF rfl rfl rfl rfl ?_
  refine Wl.guardU rfl rfl ?_
  refine Wl.guardU rfl rfl ?_
  refine Wl.guardU rfl rfl ?_
  refine Wl.guardU rfl rfl ?_
  refine Wl.guardU rfl rfl ?_
  refine Wl.guardU rfl rfl ?_
  refine Wl.guardU rfl rfl ?_
  refine Wl.guardU rfl rfl ?_
  refine Wl.guardF rfl rfl rfl rfl ?_
  refine wZ rg (o_pickF rfl rfl (v := .bool false) rfl (asZ (.bool false) rfl (nZ ?_)))
  refine Vc.ret' ?_
  refine res_tmp (v := .bool false) rfl (res_nil ?_)
  show Gives _ (.bool false) _
  exact gives_out hrg (VW.refl _) (hQ _ h)
theorem formula_Check_ctr {f : GFormula} {Q : Option Int → Prop} {S : St} {R : AV → St → Prop} (h : formula_Check_W f Q) (hQ : ∀ r1, Q r1 → R (eErr 83 r1) S) :
    Ctr Try.prog 158 [eFormula f] S R := by
  unfold formula_Check_W at h
  refine enterT Try.func158 rfl Try.ntmps158 Try.results158 (by kernel_rfl) (fun rg hrg => ?_)
  refine qZ (rZ (wZ rg (o_box (v := eFormula f) rfl rfl (kk := 3) rfl (by decide) (fun g1 => (asZ .niface rfl (nZ (qZ ?_)))))))
  obtain ⟨J, h, hJ⟩ := h
  refine Vc.join' (σ := ((Bool) × (Nat))) (fun y => J y.1) (fun y => envOf [(1, .ptr rg 1 y.2 0 0), (12, .bool y.1)]) (fun y => stL S rg [(1, .arr 3 [eFormula f], y.2)]) (fun y h => ?_) ?_
  · obtain ⟨x, g2⟩ := y
    replace h := hJ x h
    show Vc _ _ _ _ (envOf [(1, .ptr rg 1 g2 0 0), (12, .bool x)]) (stL S rg [(1, .arr 3 [eFormula f], g2)])
    refine Vc.cond' rfl (fun hb => ?_) (fun hb => ?_)
    · replace h := h.1 hb
      refine qZ (rZ (wZ rg (o_iface (by rw [td83]; trivial) (v := .int .i64 3) rfl (asZ (.iface 83 (.int .i64 3)) rfl (nZ ?_)))))
      refine Vc.ret' ?_
      refine res_tmp (v := .iface 83 (.int .i64 3)) rfl (res_nil ?_)
      show Gives _ (.iface 83 (.int .i64 3)) _
      exact gives_out hrg (VW.refl _) (hQ _ h)
    replace h := h.2 hb
    refine Vc.skip' ?_
    refine qZ (qZ (rZ (wZ rg (o_faP td68 rfl rfl (by rw [sz66]; decide) rfl (wZ rg (o_loadB1 (atL (k := 1) rfl) sz66 ag66 rfl rfl (v := eL eNode f.Nodes) rfl (wZ rg (o_len td66 rfl (wZ rg (o_gtr rfl rfl (nZ ?_)))))))))))
    refine Vc.cond' rfl (fun hb1 => ?_) (fun hb1 => ?_)
    · replace h := h.1 hb1
      refine qZ (rZ (wZ rg (o_iface (by rw [td83]; trivial) (v := .int .i64 4) rfl (asZ (.iface 83 (.int .i64 4)) rfl (nZ ?_)))))
      refine Vc.ret' ?_
      refine res_tmp (v := .iface 83 (.int .i64 4)) rfl (res_nil ?_)
      show Gives _ (.iface 83 (.int .i64 4)) _
      exact gives_out hrg (VW.refl _) (hQ _ h)
    replace h := h.2 hb1
    refine Vc.skip' ?_
    refine qZ (qZ (rZ (wZ rg (o_faP td68 rfl rfl (by rw [sz66]; decide) rfl (wZ rg (o_loadB1 (atL (k := 1) rfl) sz66 ag66 rfl rfl (v := eL eNode f.Nodes) rfl (wZ rg (o_len td66 rfl (mvZ (.int .i64 0) rfl (nZ ?_))))))))))
    refine Vc.blk ?_
    obtain ⟨I, μ, h0, hI⟩ := h
    refine Vc.loop' (σ := (Int)) (fun y => I y) (fun y => μ y) (fun y => envOf [(1, .ptr rg 1 g2 0 0), (21, .int .i64 (f.Nodes.length : Int)), (22, .int .i64 y)]) (fun y => stL S rg [(1, .arr 3 [eFormula f], g2)]) 0 (canon (fc vr (fc vr (fc vr (fn)))) (sc rfl (sn))) h0 (fun x1 h => ?_)
    replace h := hI x1 h
    show Vc _ _ _ _ (envOf [(1, .ptr rg 1 g2 0 0), (21, .int .i64 (f.Nodes.length : Int)), (22, .int .i64 x1)]) (stL S rg [(1, .arr 3 [eFormula f], g2)])
    refine qZ (rZ (wZ rg (o_lss rfl rfl (nZ (qZ ?_)))))
    refine Vc.cond' rfl (fun hb2 => ?_) (fun hb2 => ?_)
    · replace h := h.1 hb2
      refine Vc.skip' ?_
      refine qZ ?_
      refine Vc.blk ?_
      refine qZ (rZ (mvZ (.int .i64 x1) rfl (asZ (.int .i64 x1) rfl (nZ (qZ (rZ (wZ rg (o_loadBA (atL (k := 1) rfl) sz68 (by decide) ag68 rfl rfl (v := eFormula f) rfl (mvZ (.int .i64 x1) rfl (wZ rg (o_call (us := [eFormula f, AV.int .i64 x1]) rfl (vl' vr (vl' vr (vn))) (formula_checkNode_ctr h fun e h => (asZ (eErr 83 e) rfl (nZ (qZ (rZ (mvZ (eErr 83 e) rfl ?_)))))))))))))))))
      refine wZ rg (o_isnon td29 (E := 83) rfl rfl rfl (nZ ?_))
      refine Vc.cond' rfl (fun hb3 => ?_) (fun hb3 => ?_)
      · replace h := h.1 hb3
        refine qZ (rZ (mvZ (eErr 83 e) rfl (asZ (eErr 83 e) rfl (nZ ?_))))
        refine Vc.ret' ?_
        refine res_tmp (v := eErr 83 e) rfl (res_nil ?_)
        show Gives _ (eErr 83 e) _
        exact gives_out hrg (VW.refl _) (hQ _ h)
      replace h := h.2 hb3
      refine Vc.skip' ?_
      refine rZ ?_
      refine wZ rg (o_addG rfl rfl h.1 ?_)
      replace h := h.2
      refine mvZ (.int .i64 (x1 + 1)) rfl (nZ ?_)
      exact ⟨(x1 + 1), (canon (fc vr (fc vr (fc vr (fn)))) (sc rfl (sn))), h⟩
    replace h := h.2 hb2
    refine Vc.exit' (exB_self ?_)
    refine qZ (qZ (rZ (wZ rg (o_loadBA (atL (k := 1) rfl) sz68 (by decide) ag68 rfl rfl (v := eFormula f) rfl (wZ rg (o_faP td68 rfl rfl (by rw [sz3]; decide) rfl (wZ rg (o_loadB1 (atL (k := 1) rfl) sz3 ag3 rfl rfl (v := .int .i64 f.Top) rfl (wZ rg (o_call (us := [eFormula f, AV.int .i64 f.Top]) rfl (vl' vr (vl' vr (vn))) (formula_Valid_ctr h fun r h => (wZ rg (o_not rfl (nZ ?_))))))))))))))
    refine Vc.cond' rfl (fun hb4 => ?_) (fun hb4 => ?_)
    · replace h := h.1 hb4
      refine qZ (rZ (wZ rg (o_iface (by rw [td83]; trivial) (v := .int .i64 10) rfl (asZ (.iface 83 (.int .i64 10)) rfl (nZ ?_)))))
      refine Vc.ret' ?_
      refine res_tmp (v := .iface 83 (.int .i64 10)) rfl (res_nil ?_)
      show Gives _ (.iface 83 (.int .i64 10)) _
      exact gives_out hrg (VW.refl _) (hQ _ h)
    replace h := h.2 hb4
    refine Vc.skip' ?_
    refine qZ (rZ (asZ .niface rfl (nZ ?_)))
    refine Vc.ret' ?_
    refine res_tmp (v := .niface) rfl (res_nil ?_)
    show Gives _ .niface _
    exact gives_out hrg (VW.refl _) (hQ _ h)
  refine rZ ?_
  refine wZ rg (o_faP td68 rfl rfl (by rw [sz3]; decide) rfl (wZ rg (o_loadB1 (atL (k := 1) rfl) sz3 ag3 rfl rfl (v := .int .i64 f.Vars) rfl (wZ rg (o_lss rfl rfl (mvZ (.bool (decide (f.Vars < 0))) rfl ?_))))))
  refine Wl.guard rfl rfl (fun hb5 => ?_) (fun hb5 => ?_)
  · replace h := h.2 hb5
    refine wZ rg (o_faP td68 rfl rfl (by rw [sz3]; decide) rfl ?_)
    refine Wl.guardT rfl rfl hb5 ?_
    refine wZ rg (o_loadB1 (atL (k := 1) rfl) sz3 ag3 rfl rfl (v := .int .i64 f.Vars) rfl ?_)
    refine Wl.guardT rfl rfl hb5 ?_
    refine wZ rg (o_gtr rfl rfl (wZ rg (o_pickF rfl hb5 (v := .bool (decide (24 < f.Vars))) rfl (nZ ?_))))
    exact ⟨((decide (24 < f.Vars)), g1), (canon (fc vr (fc vr (fn))) (sc rfl (sn))), h⟩
  replace h := h.1 hb5
  refine Wl.guardF rfl rfl hb5 rfl ?_
  refine Wl.guardF rfl rfl hb5 rfl ?_
  refine wZ rg (o_pickT rfl hb5 (v := .bool true) rfl (nZ ?_))
  exact ⟨(true, g1), (canon (fc vr (fc vr (fn))) (sc rfl (sn))), h⟩
end Go.Proofs.Ytllegjdggcmgaaa
/- Walks of functions. Conditions: none. -/
namespace Go.Proofs.Ytllegjdggcmgaaa
open Go.Gg
set_option maxRecDepth 100000
theorem formula_below_ctr {f : GFormula} {Q : List Bool → Prop} {S : St} {R : AV → St → Prop} (h : formula_below_W f Q) (hQ : ∀ r1, Q r1 → R (eL AV.bool r1) S) :
    Ctr Try.prog 175 [eFormula f] S R := by
  unfold formula_below_W at h
  refine enterT Try.func175 rfl Try.ntmps175 Try.results175 (by kernel_rfl) (fun rg hrg => ?_)
  refine qZ (rZ (wZ rg (o_box (v := eFormula f) rfl rfl (kk := 3) rfl (by decide) (fun g1 => (asZ .nil rfl (nZ (qZ (rZ (wZ rg (o_faP td68 rfl rfl (by rw [sz3]; decide) rfl (wZ rg (o_loadB1 (atL (k := 1) rfl) sz3 ag3 rfl rfl (v := .int .i64 f.Vars) rfl (wZ rg (o_faP td68 rfl rfl (by rw [sz66]; decide) rfl (wZ rg (o_loadB1 (atL (k := 1) rfl) sz66 ag66 rfl rfl (v := eL eNode f.Nodes) rfl ?_))))))))))))))))
  refine wZ rg (o_len td66 rfl (wZ rg (o_addG rfl rfl h.1 ?_)))
  replace h := h.2
  refine wZ rg (o_make td139 bts4 ok4 (enc := AV.bool) (z' := false) zav4 (kk := 1) rfl rfl rfl h.1 (fun g2 => ?_))
  replace h := h.2
  refine asZ (.sl 1 rg 13 g2 0 (Int.toNat (f.Vars + (f.Nodes.length : Int)))) rfl (nZ (qZ (rZ (mvZ (.sl 1 rg 13 g2 0 (Int.toNat (f.Vars + (f.Nodes.length : Int)))) rfl (wZ rg (o_faP td68 rfl rfl (by rw [sz3]; decide) rfl (wZ rg (o_loadB1 (atL (k := 1) rfl) sz3 ag3 rfl rfl (v := .int .i64 f.Top) rfl (wZ rg (o_idxR0 td139 sz4 (by decide) rfl rfl h.1 ?_))))))))))
  have hi := h.1
  replace h := h.2
  refine wZ rg (o_storeR1 (atL (k := 13) rfl) sz4 (by decide) (x' := true) (fun _ => rfl) rfl rfl (lt_of hi (by first | rfl | omega | (simp only [go_sem] <;> omega))) rfl rfl setL (nZ (qZ (qZ (rZ (wZ rg (o_faP td68 rfl rfl (by rw [sz66]; decide) rfl (wZ rg (o_loadB1 (atL (k := 1) rfl) sz66 ag66 rfl rfl (v := eL eNode f.Nodes) rfl (wZ rg (o_len td66 rfl (wZ rg (o_subG rfl rfl h.1 ?_)))))))))))))
  replace h := h.2
  refine asZ (.int .i64 ((f.Nodes.length : Int) - 1)) rfl (nZ ?_)
  refine Vc.blk ?_
  obtain ⟨I, μ, h0, hI⟩ := h
  refine Vc.loop' (σ := (Int × (List Bool))) (fun y => I y) (fun y => μ y) (fun y => envOf [(1, .ptr rg 1 g1 0 0), (3, .sl 1 rg 13 g2 0 y.2.length), (4, .int .i64 y.1)]) (fun y => stL S rg [(1, .arr 3 [eFormula f], g1), (13, .arr 1 (List.map AV.bool y.2), g2)]) (((f.Nodes.length : Int) - 1), (set' (rep' (f.Vars + (f.Nodes.length : Int)) false) f.Top true)) (canon (fc vr (fc (VW.slen (by first | rfl | omega | (simp only [go_sem] <;> omega))) (fc vr (fn)))) (sc rfl (sc rfl (sn)))) h0 (fun y h => ?_)
  obtain ⟨i, mark⟩ := y
  replace h := hI (i, mark) h
  show Vc _ _ _ _ (envOf [(1, .ptr rg 1 g1 0 0), (3, .sl 1 rg 13 g2 0 mark.length), (4, .int .i64 i)]) (stL S rg [(1, .arr 3 [eFormula f], g1), (13, .arr 1 (List.map AV.bool mark), g2)])
  refine qZ (qZ (rZ (mvZ (.int .i64 i) rfl (wZ rg (o_geq rfl rfl (nZ ?_))))))
  refine Vc.cond' rfl (fun hb => ?_) (fun hb => ?_)
  · replace h := h.1 hb
    refine Vc.skip' ?_
    refine qZ ?_
    refine Vc.blk ?_
    refine qZ (rZ (mvZ (.sl 1 rg 13 g2 0 mark.length) rfl (wZ rg (o_faP td68 rfl rfl (by rw [sz3]; decide) rfl (wZ rg (o_loadB1 (atL (k := 1) rfl) sz3 ag3 rfl rfl (v := .int .i64 f.Vars) rfl (mvZ (.int .i64 i) rfl (wZ rg (o_addG rfl rfl h.1 ?_)))))))))
    replace h := h.2
    refine wZ rg (o_idxR0 td139 sz4 (by decide) rfl rfl h.1 ?_)
    have hi1 := h.1
    replace h := h.2
    refine wZ rg (o_loadR1 (atL (k := 13) rfl) sz4 ag4 rfl (lt_of hi1 (by first | rfl | omega | (simp only [go_sem] <;> omega))) rfl (v := .bool (at' mark (f.Vars + i))) rfl (nZ ?_))
    refine Vc.cond' rfl (fun hb1 => ?_) (fun hb1 => ?_)
    · replace h := h.1 hb1
      refine qZ (rZ (wZ rg (o_faP td68 rfl rfl (by rw [sz66]; decide) rfl (wZ rg (o_loadB1 (atL (k := 1) rfl) sz66 ag66 rfl rfl (v := eL eNode f.Nodes) rfl (mvZ (.int .i64 i) rfl (wZ rg (o_idxL td66 sz154 (by decide) (fun _ => rfl) rfl rfl h.1 ?_))))))))
      replace h := h.2
      refine wZ rg (o_fa td154 rfl rfl (by rw [sz22]; decide) rfl rfl (wZ rg (o_loadI1 sz22 ag22 rfl rfl (v := eL (AV.int .i64) ((at' f.Nodes i).Args)) rfl (wZ rg (o_len td22 rfl (mvZ (.int .i64 0) rfl (nZ ?_)))))))
      refine Vc.blk ?_
      obtain ⟨I, μ, h0, hI⟩ := h
      refine Vc.loop' (σ := (Int × (List Bool))) (fun y => I y) (fun y => μ y) (fun y => envOf [(1, .ptr rg 1 g1 0 0), (3, .sl 1 rg 13 g2 0 y.2.length), (4, .int .i64 i), (38, eL (AV.int .i64) ((at' f.Nodes i).Args)), (39, .int .i64 (((at' f.Nodes i).Args).length : Int)), (40, .int .i64 y.1)]) (fun y => stL S rg [(1, .arr 3 [eFormula f], g1), (13, .arr 1 (List.map AV.bool y.2), g2)]) (0, mark) (canon (fc vr (fc vr (fc vr (fc vr (fc vr (fc vr (fn))))))) (sc rfl (sc rfl (sn)))) h0 (fun y h => ?_)
      obtain ⟨x, mark1⟩ := y
      replace h := hI (x, mark1) h
      show Vc _ _ _ _ (envOf [(1, .ptr rg 1 g1 0 0), (3, .sl 1 rg 13 g2 0 mark1.length), (4, .int .i64 i), (38, eL (AV.int .i64) ((at' f.Nodes i).Args)), (39, .int .i64 (((at' f.Nodes i).Args).length : Int)), (40, .int .i64 x)]) (stL S rg [(1, .arr 3 [eFormula f], g1), (13, .arr 1 (List.map AV.bool mark1), g2)])
      refine qZ (rZ (wZ rg (o_lss rfl rfl (nZ (qZ ?_)))))
      refine Vc.cond' rfl (fun hb2 => ?_) (fun hb2 => ?_)
      · replace h := h.1 hb2
        refine Vc.skip' ?_
        refine qZ ?_
        refine Vc.blk ?_
        refine qZ (rZ (wZ rg (o_idxL td22 sz3 (by decide) (fun _ => rfl) rfl rfl h.1 ?_)))
        replace h := h.2
        refine wZ rg (o_loadI1 sz3 ag3 rfl rfl (v := .int .i64 (at' ((at' f.Nodes i).Args) x)) rfl (asZ (.int .i64 (at' ((at' f.Nodes i).Args) x)) rfl (nZ (rZ (mvZ (.sl 1 rg 13 g2 0 mark1.length) rfl (mvZ (.int .i64 (at' ((at' f.Nodes i).Args) x)) rfl (wZ rg (o_idxR0 td139 sz4 (by decide) rfl rfl h.1 ?_))))))))
        have hi2 := h.1
        replace h := h.2
        refine wZ rg (o_storeR1 (atL (k := 13) rfl) sz4 (by decide) (x' := true) (fun _ => rfl) rfl rfl (lt_of hi2 (by first | rfl | omega | (simp only [go_sem] <;> omega))) rfl rfl setL (nZ (rZ (wZ rg (o_addG rfl rfl h.1 ?_)))))
        replace h := h.2
        refine mvZ (.int .i64 (x + 1)) rfl (nZ ?_)
        exact ⟨((x + 1), (set' mark1 (at' ((at' f.Nodes i).Args) x) true)), (canon (fc vr (fc (VW.slen (by first | rfl | omega | (simp only [go_sem] <;> omega))) (fc vr (fc vr (fc vr (fc vr (fn))))))) (sc rfl (sc rfl (sn)))), h⟩
      replace h := h.2 hb2
      refine Vc.exit' (exB_self ?_)
      refine rZ ?_
      refine mvZ (.int .i64 i) rfl (wZ rg (o_subG rfl rfl h.1 ?_))
      replace h := h.2
      refine asZ (.int .i64 (i - 1)) rfl (nZ ?_)
      exact ⟨((i - 1), mark1), (canon (fc vr (fc vr (fc vr (fn)))) (sc rfl (sc rfl (sn)))), h⟩
    replace h := h.2 hb1
    refine Vc.skip' ?_
    refine rZ ?_
    refine mvZ (.int .i64 i) rfl (wZ rg (o_subG rfl rfl h.1 ?_))
    replace h := h.2
    refine asZ (.int .i64 (i - 1)) rfl (nZ ?_)
    exact ⟨((i - 1), mark), (canon (fc vr (fc vr (fc vr (fn)))) (sc rfl (sc rfl (sn)))), h⟩
  replace h := h.2 hb
  refine Vc.exit' (exB_self ?_)
  refine qZ (rZ (mvZ (.sl 1 rg 13 g2 0 mark.length) rfl (asZ (.sl 1 rg 13 g2 0 mark.length) rfl (nZ ?_))))
  refine Vc.ret' ?_
  refine res_tmp (v := .sl 1 rg 13 g2 0 mark.length) rfl (res_nil ?_)
  show Gives _ (.sl 1 rg 13 g2 0 mark.length) _
  refine gives_freeze (k := 13) (xs := List.map AV.bool mark) rfl (v' := eL AV.bool mark) (frz_full rfl) ?_
  exact gives_out hrg (VW.refl _) (hQ _ h)
set_option maxHeartbeats 4000000 in
theorem formula_Trim_ctr {f : GFormula} {Q : GFormula → Option Int → Prop} {S : St} {R : AV → St → Prop} (h : formula_Trim_W f Q) (hQ : ∀ r1 r2, Q r1 r2 → R (.tuple [eFormula r1, eErr 83 r2]) S) :
    Ctr Try.prog 118 [eFormula f] S R := by
  unfold formula_Trim_W at h
  refine enterT Try.func118 rfl Try.ntmps118 Try.results118 (by kernel_rfl) (fun rg hrg => ?_)
  refine qZ (rZ (wZ rg (o_box (v := eFormula f) rfl rfl (kk := 3) rfl (by decide) (fun g1 => (wZ rg (o_alloc zav68 ok68 (kk := 3) rfl (fun g2 => (asZ .niface rfl (nZ (qZ (qZ (rZ (wZ rg (o_loadBA (atL (k := 1) rfl) sz68 (by decide) ag68 rfl rfl (v := eFormula f) rfl (wZ rg (o_call (us := [eFormula f]) rfl (vl' vr (vn)) (formula_Check_ctr h fun e h => (asZ (eErr 83 e) rfl (nZ (qZ (rZ ?_)))))))))))))))))))))
  refine mvZ (eErr 83 e) rfl (wZ rg (o_isnon td29 (E := 83) rfl rfl rfl (nZ ?_)))
  refine Vc.cond' rfl (fun hb => ?_) (fun hb => ?_)
  · replace h := h.1 hb
    refine qZ (rZ (wZ rg (o_build td68 zav68 bok68 szs68 sz68 (ps := []) rfl rfl (v := .agg [.int .i64 0, .nil, .int .i64 0]) rfl (mvZ (eErr 83 e) rfl (wZ rg (o_storeB (atL (k := 2) rfl) sz68 (by decide) rfl (w := .agg [.int .i64 0, .nil, .int .i64 0]) rfl rfl rfl (v := .agg [.int .i64 0, .nil, .int .i64 0]) rfl setL (asZ (eErr 83 e) rfl (nZ ?_))))))))
    refine Vc.ret' ?_
    refine res_cellA (atL (k := 2) rfl) sz68 (by decide) ag68 rfl rfl (v := .agg [.int .i64 0, .nil, .int .i64 0]) rfl (res_tmp (v := eErr 83 e) rfl (res_nil ?_))
    show Gives _ (.tuple [.agg [.int .i64 0, .nil, .int .i64 0], eErr 83 e]) _
    exact gives_out hrg (VW.tupL (vl' (VW.aggL (vl' vr (vl' (VW.nilL) (vl' vr (vn))))) (vl' vr (vn)))) (hQ _ _ h)
  replace h := h.2 hb
  refine Vc.skip' ?_
  refine qZ (rZ (wZ rg (o_faP td68 rfl rfl (by rw [sz3]; decide) rfl (wZ rg (o_loadB1 (atL (k := 1) rfl) sz3 ag3 rfl rfl (v := .int .i64 f.Vars) rfl (wZ rg (o_build td68 zav68 bok68 szs68 sz68 (ps := [(0, .int .i64 f.Vars)]) rfl rfl (v := .agg [.int .i64 f.Vars, .nil, .int .i64 0]) rfl (wZ rg (o_alloc zav68 ok68 (kk := 3) rfl (fun g3 => ?_))))))))))
  refine wZ rg (o_storeB (atL (k := 5) rfl) sz68 (by decide) rfl (w := .agg [.int .i64 f.Vars, .nil, .int .i64 0]) rfl rfl rfl (v := .agg [.int .i64 f.Vars, .nil, .int .i64 0]) rfl setL (nZ (qZ (rZ (wZ rg (o_faP td68 rfl rfl (by rw [sz3]; decide) rfl (wZ rg (o_loadB1 (atL (k := 1) rfl) sz3 ag3 rfl rfl (v := .int .i64 f.Vars) rfl (wZ rg (o_faP td68 rfl rfl (by rw [sz66]; decide) rfl ?_))))))))))
  refine wZ rg (o_loadB1 (atL (k := 1) rfl) sz66 ag66 rfl rfl (v := eL eNode f.Nodes) rfl (wZ rg (o_len td66 rfl (wZ rg (o_addG rfl rfl h.1 ?_)))))
  replace h := h.2
  refine wZ rg (o_make td22 bts3 ok3 (enc := AV.int .i64) (z' := 0) zav3 (kk := 1) rfl rfl rfl h.1 (fun g4 => ?_))
  replace h := h.2
  refine asZ (.sl 1 rg 29 g4 0 (Int.toNat (f.Vars + (f.Nodes.length : Int)))) rfl (nZ (qZ (qZ (rZ (wZ rg (o_faP td68 rfl rfl (by rw [sz3]; decide) rfl (wZ rg (o_loadB1 (atL (k := 1) rfl) sz3 ag3 rfl rfl (v := .int .i64 f.Vars) rfl (mvZ (.int .i64 0) rfl (nZ ?_))))))))))
  refine Vc.blk ?_
  obtain ⟨I, μ, h0, hI⟩ := h
  refine Vc.loop' (σ := (Int × (List Int))) (fun y => I y) (fun y => μ y) (fun y => envOf [(1, .ptr rg 1 g1 0 0), (2, .ptr rg 2 g2 0 0), (5, .ptr rg 5 g3 0 0), (6, .sl 1 rg 29 g4 0 y.2.length), (31, .int .i64 f.Vars), (32, .int .i64 y.1)]) (fun y => stL S rg [(1, .arr 3 [eFormula f], g1), (2, .arr 3 [.agg [.int .i64 0, .nil, .int .i64 0]], g2), (5, .arr 3 [.agg [.int .i64 f.Vars, .nil, .int .i64 0]], g3), (29, .arr 1 (List.map (AV.int .i64) y.2), g4)]) (0, (rep' (f.Vars + (f.Nodes.length : Int)) 0)) (canon (fc vr (fc vr (fc vr (fc (VW.slen (by first | rfl | omega | (simp only [go_sem] <;> omega))) (fc vr (fc vr (fn))))))) (sc rfl (sc rfl (sc rfl (sc rfl (sn)))))) h0 (fun y h => ?_)
  obtain ⟨x, to⟩ := y
  replace h := hI (x, to) h
  show Vc _ _ _ _ (envOf [(1, .ptr rg 1 g1 0 0), (2, .ptr rg 2 g2 0 0), (5, .ptr rg 5 g3 0 0), (6, .sl 1 rg 29 g4 0 to.length), (31, .int .i64 f.Vars), (32, .int .i64 x)]) (stL S rg [(1, .arr 3 [eFormula f], g1), (2, .arr 3 [.agg [.int .i64 0, .nil, .int .i64 0]], g2), (5, .arr 3 [.agg [.int .i64 f.Vars, .nil, .int .i64 0]], g3), (29, .arr 1 (List.map (AV.int .i64) to), g4)])
  refine qZ (rZ (wZ rg (o_lss rfl rfl (nZ (qZ ?_)))))
  refine Vc.cond' rfl (fun hb1 => ?_) (fun hb1 => ?_)
  · replace h := h.1 hb1
    refine Vc.skip' ?_
    refine qZ ?_
    refine Vc.blk ?_
    refine qZ (rZ (mvZ (.int .i64 x) rfl (asZ (.int .i64 x) rfl (nZ (rZ (mvZ (.sl 1 rg 29 g4 0 to.length) rfl (mvZ (.int .i64 x) rfl (mvZ (.int .i64 x) rfl (wZ rg (o_idxR0 td22 sz3 (by decide) rfl rfl h.1 ?_))))))))))
    have hi := h.1
    replace h := h.2
    refine wZ rg (o_storeR1 (atL (k := 29) rfl) sz3 (by decide) (x' := x) (fun _ => rfl) rfl rfl (lt_of hi (by first | rfl | omega | (simp only [go_sem] <;> omega))) rfl rfl setL (nZ (rZ (wZ rg (o_addG rfl rfl h.1 ?_)))))
    replace h := h.2
    refine mvZ (.int .i64 (x + 1)) rfl (nZ ?_)
    exact ⟨((x + 1), (set' to x x)), (canon (fc vr (fc vr (fc vr (fc (VW.slen (by first | rfl | omega | (simp only [go_sem] <;> omega))) (fc vr (fc vr (fn))))))) (sc rfl (sc rfl (sc rfl (sc rfl (sn)))))), h⟩
  replace h := h.2 hb1
  refine Vc.exit' (exB_self ?_)
  refine qZ (qZ ?_)
  obtain ⟨r, hc, h⟩ := h
  have hg := h.1
  replace h := h.2
  refine Vc.drawn' mixed rg (usOf [(1, pc (eL AV.bool r))]) (by kernel_rfl) ?_
  refine dL (E := ([(rg, 1)], [])) rfl rfl (by simp) (cfn) (o_loadBA (atL (k := 1) rfl) sz68 (by decide) ag68 rfl rfl (v := eFormula f) rfl ?_)
  refine dC (vs := [eFormula f]) rfl (vl' vr (vn)) (fun _ => formula_below_ctr hc (fun _ hr => ⟨by rw [hr], rfl⟩)) rfl ?_
  refine dP rfl rfl (o_faP td68 rfl rfl (by rw [sz3]; decide) rfl (dL (E := ([(rg, 1)], [])) rfl rfl (by simp) (cfa (by simp [apartE]) (cfn)) (o_loadB1 (atL (k := 1) rfl) sz3 ag3 rfl rfl (v := .int .i64 f.Vars) rfl (dP rfl rfl (o_sliceL td139 sz4 (by decide) (fun _ => rfl) rfl (l := f.Vars) (h := (r.length : Int)) rfl rfl hg (dP rfl rfl (o_len td139 rfl (dP rfl rfl (o_move (v := .int .i64 0) rfl ?_)))))))))
  refine dN ?_
  refine Vc.blk ?_
  refine Vc.matB 5 1 96 3 (b := fun g5 => .agg [.int .i64 f.Vars, .sl 3 rg 96 g5 0 0, .int .i64 0]) rfl rfl (by decide) (by decide) rfl (fun g5 => ?_)
  obtain ⟨I, μ, h0, hI⟩ := h
  refine Vc.loop' (σ := ((Int × (List Int) × (List GNode)) × (Nat))) (fun y => I y.1) (fun y => μ y.1) (fun y => envOf [(1, .ptr rg 1 g1 0 0), (2, .ptr rg 2 g2 0 0), (5, .ptr rg 5 g3 0 0), (6, .sl 1 rg 29 g4 0 y.1.2.1.length), (44, eL AV.bool (sub' r f.Vars (r.length : Int))), (45, .int .i64 ((sub' r f.Vars (r.length : Int)).length : Int)), (46, .int .i64 y.1.1)]) (fun y => stL S rg [(1, .arr 3 [eFormula f], g1), (2, .arr 3 [.agg [.int .i64 0, .nil, .int .i64 0]], g2), (5, .arr 3 [.agg [.int .i64 f.Vars, .sl 3 rg 96 y.2 0 y.1.2.2.length, .int .i64 0]], g3), (29, .arr 1 (List.map (AV.int .i64) y.1.2.1), g4), (96, .arr 3 (List.map eNode y.1.2.2), y.2)]) ((0, to, []), g5) (EWk.trans (EWk.ow (k := 5) (o' := .arr 3 [.agg [.int .i64 f.Vars, .sl 3 rg 96 g5 0 ([].length), .int .i64 0]]) rfl (OW.one (VWL.vwc (vl' vr (vl' (VW.slen (by first | rfl | omega | (simp only [go_sem] <;> omega))) (vl' vr (vn))))))) (canon (fc vr (fc vr (fc vr (fc vr (fc vr (fc vr (fc vr (fn)))))))) (sc rfl (sc rfl (sc rfl (sc rfl (sc rfl (sn)))))))) h0 (fun y h => ?_)
  obtain ⟨⟨x1, to1, x2⟩, g6⟩ := y
  replace h := hI (x1, to1, x2) h
  show Vc _ _ _ _ (envOf [(1, .ptr rg 1 g1 0 0), (2, .ptr rg 2 g2 0 0), (5, .ptr rg 5 g3 0 0), (6, .sl 1 rg 29 g4 0 to1.length), (44, eL AV.bool (sub' r f.Vars (r.length : Int))), (45, .int .i64 ((sub' r f.Vars (r.length : Int)).length : Int)), (46, .int .i64 x1)]) (stL S rg [(1, .arr 3 [eFormula f], g1), (2, .arr 3 [.agg [.int .i64 0, .nil, .int .i64 0]], g2), (5, .arr 3 [.agg [.int .i64 f.Vars, .sl 3 rg 96 g6 0 x2.length, .int .i64 0]], g3), (29, .arr 1 (List.map (AV.int .i64) to1), g4), (96, .arr 3 (List.map eNode x2), g6)])
  refine qZ (rZ (wZ rg (o_lss rfl rfl (nZ (qZ ?_)))))
  refine Vc.cond' rfl (fun hb2 => ?_) (fun hb2 => ?_)
  · replace h := h.1 hb2
    refine Vc.skip' ?_
    refine qZ ?_
    refine Vc.blk ?_
    refine qZ (rZ (mvZ (.int .i64 x1) rfl (wZ rg (o_idxL td139 sz4 (by decide) (fun _ => rfl) rfl rfl h.1 ?_))))
    replace h := h.2
    refine wZ rg (o_loadI1 sz4 ag4 rfl rfl (v := .bool (at' (sub' r f.Vars (r.length : Int)) x1)) rfl (asZ (.int .i64 x1) rfl (asZ (.bool (at' (sub' r f.Vars (r.length : Int)) x1)) rfl (nZ (qZ (qZ (rZ (mvZ (.bool (at' (sub' r f.Vars (r.length : Int)) x1)) rfl (wZ rg (o_not rfl (nZ ?_)))))))))))
    refine Vc.cond' rfl (fun hb3 => ?_) (fun hb3 => ?_)
    · replace h := h.1 hb3
      refine Vc.exit' (exB_self ?_)
      refine rZ ?_
      refine wZ rg (o_addG rfl rfl h.1 ?_)
      replace h := h.2
      refine mvZ (.int .i64 (x1 + 1)) rfl (nZ ?_)
      exact ⟨(((x1 + 1), to1, x2), g6), (canon (fc vr (fc vr (fc vr (fc vr (fc vr (fc vr (fc vr (fn)))))))) (sc rfl (sc rfl (sc rfl (sc rfl (sc rfl (sn))))))), h⟩
    replace h := h.2 hb3
    refine Vc.skip' ?_
    refine qZ (rZ (wZ rg (o_faP td68 rfl rfl (by rw [sz66]; decide) rfl (wZ rg (o_loadB1 (atL (k := 1) rfl) sz66 ag66 rfl rfl (v := eL eNode f.Nodes) rfl (mvZ (.int .i64 x1) rfl (wZ rg (o_idxL td66 sz154 (by decide) (fun _ => rfl) rfl rfl h.1 ?_))))))))
    replace h := h.2
    refine wZ rg (o_loadIA sz154 (by decide) ag154 rfl rfl (v := eNode (at' f.Nodes x1)) rfl (wZ rg (o_alloc zav154 ok154 (kk := 3) rfl (fun g7 => (wZ rg (o_storeB (atL (k := 10) rfl) sz154 (by decide) rfl (w := eNode (at' f.Nodes x1)) rfl rfl rfl (v := eNode (at' f.Nodes x1)) rfl setL (nZ (qZ (rZ (wZ rg (o_faP td154 rfl rfl (by rw [sz3]; decide) rfl ?_)))))))))))
    refine wZ rg (o_loadB1 (atL (k := 10) rfl) sz3 ag3 rfl rfl (v := .int .i64 ((at' f.Nodes x1).Kind)) rfl (wZ rg (o_faP td154 rfl rfl (by rw [sz3]; decide) rfl (wZ rg (o_loadB1 (atL (k := 10) rfl) sz3 ag3 rfl rfl (v := .int .i64 ((at' f.Nodes x1).K)) rfl ?_)))))
    refine wZ rg (o_build td154 zav154 bok154 szs154 sz154 (ps := [(0, .int .i64 ((at' f.Nodes x1).Kind)), (1, .int .i64 ((at' f.Nodes x1).K))]) rfl rfl (v := .agg [.int .i64 ((at' f.Nodes x1).Kind), .int .i64 ((at' f.Nodes x1).K), .nil]) rfl (wZ rg (o_alloc zav154 ok154 (kk := 3) rfl (fun g8 => ?_))))
    refine wZ rg (o_storeB (atL (k := 11) rfl) sz154 (by decide) rfl (w := .agg [.int .i64 ((at' f.Nodes x1).Kind), .int .i64 ((at' f.Nodes x1).K), .nil]) rfl rfl rfl (v := .agg [.int .i64 ((at' f.Nodes x1).Kind), .int .i64 ((at' f.Nodes x1).K), .nil]) rfl setL (nZ (qZ (qZ (rZ (wZ rg (o_faP td154 rfl rfl (by rw [sz22]; decide) rfl ?_)))))))
    refine wZ rg (o_loadB1 (atL (k := 10) rfl) sz22 ag22 rfl rfl (v := eL (AV.int .i64) ((at' f.Nodes x1).Args)) rfl (wZ rg (o_len td22 rfl (mvZ (.int .i64 0) rfl (nZ ?_)))))
    refine Vc.blk ?_
    refine Vc.matB 11 2 77 1 (b := fun g9 => .agg [.int .i64 ((at' f.Nodes x1).Kind), .int .i64 ((at' f.Nodes x1).K), .sl 1 rg 77 g9 0 0]) rfl rfl (by decide) (by decide) rfl (fun g9 => ?_)
    obtain ⟨I, μ, h0, hI⟩ := h
    refine Vc.loop' (σ := ((Int × (List Int)) × (Nat))) (fun y => I y.1) (fun y => μ y.1) (fun y => envOf [(1, .ptr rg 1 g1 0 0), (2, .ptr rg 2 g2 0 0), (5, .ptr rg 5 g3 0 0), (6, .sl 1 rg 29 g4 0 to1.length), (8, .int .i64 x1), (11, .ptr rg 11 g8 0 0), (44, eL AV.bool (sub' r f.Vars (r.length : Int))), (45, .int .i64 ((sub' r f.Vars (r.length : Int)).length : Int)), (46, .int .i64 x1), (64, eL (AV.int .i64) ((at' f.Nodes x1).Args)), (65, .int .i64 (((at' f.Nodes x1).Args).length : Int)), (66, .int .i64 y.1.1)]) (fun y => stL S rg [(1, .arr 3 [eFormula f], g1), (2, .arr 3 [.agg [.int .i64 0, .nil, .int .i64 0]], g2), (5, .arr 3 [.agg [.int .i64 f.Vars, .sl 3 rg 96 g6 0 x2.length, .int .i64 0]], g3), (11, .arr 3 [.agg [.int .i64 ((at' f.Nodes x1).Kind), .int .i64 ((at' f.Nodes x1).K), .sl 1 rg 77 y.2 0 y.1.2.length]], g8), (29, .arr 1 (List.map (AV.int .i64) to1), g4), (77, .arr 1 (List.map (AV.int .i64) y.1.2), y.2), (96, .arr 3 (List.map eNode x2), g6)]) ((0, []), g9) (EWk.trans (EWk.ow (k := 11) (o' := .arr 3 [.agg [.int .i64 ((at' f.Nodes x1).Kind), .int .i64 ((at' f.Nodes x1).K), .sl 1 rg 77 g9 0 ([].length)]]) rfl (OW.one (VWL.vwc (vl' vr (vl' vr (vl' (VW.slen (by first | rfl | omega | (simp only [go_sem] <;> omega))) (vn))))))) (canon (fc vr (fc vr (fc vr (fc vr (fc vr (fc vr (fc vr (fc vr (fc vr (fc vr (fc vr (fc vr (fn))))))))))))) (sc rfl (sc rfl (sc rfl (sc rfl (sc rfl (sc rfl (sc rfl (sn)))))))))) h0 (fun y h => ?_)
    obtain ⟨⟨x3, x4⟩, g10⟩ := y
    replace h := hI (x3, x4) h
    show Vc _ _ _ _ (envOf [(1, .ptr rg 1 g1 0 0), (2, .ptr rg 2 g2 0 0), (5, .ptr rg 5 g3 0 0), (6, .sl 1 rg 29 g4 0 to1.length), (8, .int .i64 x1), (11, .ptr rg 11 g8 0 0), (44, eL AV.bool (sub' r f.Vars (r.length : Int))), (45, .int .i64 ((sub' r f.Vars (r.length : Int)).length : Int)), (46, .int .i64 x1), (64, eL (AV.int .i64) ((at' f.Nodes x1).Args)), (65, .int .i64 (((at' f.Nodes x1).Args).length : Int)), (66, .int .i64 x3)]) (stL S rg [(1, .arr 3 [eFormula f], g1), (2, .arr 3 [.agg [.int .i64 0, .nil, .int .i64 0]], g2), (5, .arr 3 [.agg [.int .i64 f.Vars, .sl 3 rg 96 g6 0 x2.length, .int .i64 0]], g3), (11, .arr 3 [.agg [.int .i64 ((at' f.Nodes x1).Kind), .int .i64 ((at' f.Nodes x1).K), .sl 1 rg 77 g10 0 x4.length]], g8), (29, .arr 1 (List.map (AV.int .i64) to1), g4), (77, .arr 1 (List.map (AV.int .i64) x4), g10), (96, .arr 3 (List.map eNode x2), g6)])
    refine qZ (rZ (wZ rg (o_lss rfl rfl (nZ (qZ ?_)))))
    refine Vc.cond' rfl (fun hb4 => ?_) (fun hb4 => ?_)
    · replace h := h.1 hb4
      refine Vc.skip' ?_
      refine qZ ?_
      refine Vc.blk ?_
      refine qZ (rZ (wZ rg (o_idxL td22 sz3 (by decide) (fun _ => rfl) rfl rfl h.1 ?_)))
      replace h := h.2
      refine wZ rg (o_loadI1 sz3 ag3 rfl rfl (v := .int .i64 (at' ((at' f.Nodes x1).Args) x3)) rfl (asZ (.int .i64 (at' ((at' f.Nodes x1).Args) x3)) rfl (nZ ?_)))
      have hi1 := h.1
      replace h := h.2
      have hg1 := h.1
      replace h := h.2
      refine Vc.drawn' mixed rg (fun _ => jcr2) (by kernel_rfl) ?_
      refine dP rfl rfl (o_faP td154 rfl rfl (by rw [sz22]; decide) rfl (dL (E := ([(rg, 11)], [])) rfl rfl (by simp) (cfn) (o_loadB1 (atL (k := 11) rfl) sz22 ag22 rfl rfl (v := .sl 1 rg 77 g10 0 x4.length) rfl (dP rfl rfl (o_move (v := .sl 1 rg 29 g4 0 to1.length) rfl (dP rfl rfl (o_move (v := .int .i64 (at' ((at' f.Nodes x1).Args) x3)) rfl (dP rfl rfl (o_idxR0 td22 sz3 (by decide) rfl rfl hi1 ?_)))))))))
      refine dL (E := ([(rg, 29)], [])) rfl rfl (by simp) (cfa (by simp [apartE]) (cfn)) (o_loadR1 (atL (k := 29) rfl) sz3 ag3 rfl (lt_of hi1 (by first | rfl | omega | (simp only [go_sem] <;> omega))) rfl (v := .int .i64 (at' to1 (at' ((at' f.Nodes x1).Args) x3))) rfl ?_)
      refine dL (E := ([], [(rg, 76)])) rfl rfl (by simp) (cfo (by kernel_rfl) (cfa (by simp [apartE]) (cfn))) (o_bslice td22 ok3 zav3 (es := [.int .i64 (at' to1 (at' ((at' f.Nodes x1).Args) x3))]) rfl (kk := 1) rfl rfl rfl rfl rfl rfl (fun g11 => ?_))
      refine dL (E := ([(rg, 76)], [(rg, 77)])) rfl rfl (by simp) (cfo (by kernel_rfl) (cfo (by kernel_rfl) (cfo (by kernel_rfl) (cfn)))) (o_appR td22 bts3 ok3 zav3 (es := x4) (xs := [(at' to1 (at' ((at' f.Nodes x1).Args) x3))]) (enc := AV.int .i64) (atL (k := 77) rfl) (by first | rfl | omega | (simp only [go_sem] <;> omega)) (view_rowE (atL (k := 76) rfl) (by first | rfl | omega | (simp only [go_sem] <;> omega))) (kk := 1) rfl rfl (fun _ => rfl) (fun _ => rfl) hg1 rfl (fun _ => setL) (fun g12 => ?_))
      refine dP rfl rfl (o_faP td154 rfl rfl (by rw [sz22]; decide) rfl ?_)
      refine dL (E := ([], [(rg, 11)])) rfl rfl (by simp) (cfo (by kernel_rfl) (cfo (by kernel_rfl) (cfo (by kernel_rfl) (cfo (by kernel_rfl) (cfn))))) (o_storeB (atL (k := 11) rfl) sz22 (by decide) rfl (w := .sl 1 rg 77 g12 0 ((x4 ++ [(at' to1 (at' ((at' f.Nodes x1).Args) x3))]).length)) rfl rfl rfl (v := .agg [.int .i64 ((at' f.Nodes x1).Kind), .int .i64 ((at' f.Nodes x1).K), .sl 1 rg 77 g12 0 ((x4 ++ [(at' to1 (at' ((at' f.Nodes x1).Args) x3))]).length)]) rfl setL ?_)
      refine dN ?_
      refine rZ ?_
      refine wZ rg (o_addG rfl rfl h.1 ?_)
      replace h := h.2
      refine mvZ (.int .i64 (x3 + 1)) rfl (nZ ?_)
      exact ⟨(((x3 + 1), (x4 ++ [(at' to1 (at' ((at' f.Nodes x1).Args) x3))])), g12), (canon (fc vr (fc vr (fc vr (fc vr (fc vr (fc vr (fc vr (fc vr (fc vr (fc vr (fc vr (fc vr (fn))))))))))))) (sc rfl (sc rfl (sc rfl (sc rfl (sc rfl (sc rfl (sc rfl (sn))))))))), h⟩
    replace h := h.2 hb4
    refine Vc.exit' (exB_self ?_)
    refine qZ (rZ (mvZ (.sl 1 rg 29 g4 0 to1.length) rfl (wZ rg (o_faP td68 rfl rfl (by rw [sz3]; decide) rfl (wZ rg (o_loadB1 (atL (k := 1) rfl) sz3 ag3 rfl rfl (v := .int .i64 f.Vars) rfl (mvZ (.int .i64 x1) rfl (wZ rg (o_addG rfl rfl h.1 ?_)))))))))
    replace h := h.2
    refine wZ rg (o_faP td68 rfl rfl (by rw [sz3]; decide) rfl (wZ rg (o_loadB1 (atL (k := 1) rfl) sz3 ag3 rfl rfl (v := .int .i64 f.Vars) rfl (wZ rg (o_faP td68 rfl rfl (by rw [sz66]; decide) rfl (wZ rg (o_loadB1 (atL (k := 5) rfl) sz66 ag66 rfl rfl (v := .sl 3 rg 96 g6 0 x2.length) rfl (wZ rg (o_lenR td66 rfl (wZ rg (o_addG rfl rfl h.1 ?_)))))))))))
    replace h := h.2
    refine wZ rg (o_idxR0 td22 sz3 (by decide) rfl rfl h.1 ?_)
    have hi2 := h.1
    replace h := h.2
    refine wZ rg (o_storeR1 (atL (k := 29) rfl) sz3 (by decide) (x' := (f.Vars + (x2.length : Int))) (fun _ => rfl) rfl rfl (lt_of hi2 (by first | rfl | omega | (simp only [go_sem] <;> omega))) rfl rfl setL (nZ (rZ (wZ rg (o_faP td68 rfl rfl (by rw [sz66]; decide) rfl (wZ rg (o_loadB1 (atL (k := 5) rfl) sz66 ag66 rfl rfl (v := .sl 3 rg 96 g6 0 x2.length) rfl ?_)))))))
    refine wZ rg (o_loadBA (atL (k := 11) rfl) sz154 (by decide) ag154 rfl rfl (v := .agg [.int .i64 ((at' f.Nodes x1).Kind), .int .i64 ((at' f.Nodes x1).K), .sl 1 rg 77 g10 0 x4.length]) rfl ?_)
    refine Wl.wk (canon_freeze (k := 77) (xs := List.map (AV.int .i64) x4) rfl (es := [(1, .ptr rg 1 g1 0 0), (2, .ptr rg 2 g2 0 0), (5, .ptr rg 5 g3 0 0), (6, .sl 1 rg 29 g4 0 to1.length), (44, eL AV.bool (sub' r f.Vars (r.length : Int))), (45, .int .i64 ((sub' r f.Vars (r.length : Int)).length : Int)), (46, .int .i64 x1), (93, .sl 3 rg 96 g6 0 x2.length), (94, .agg [.int .i64 ((at' f.Nodes x1).Kind), .int .i64 ((at' f.Nodes x1).K), eL (AV.int .i64) x4])]) (fc vr (fc vr (fc vr (fc (frz_ne rfl) (fc vr (fc vr (fc vr (fc (frz_ne rfl) (fc (VW.aggL (vl' vr (vl' vr (vl' (frz_full rfl) (vn))))) (fn)))))))))) (m := [(1, .arr 3 [eFormula f], g1), (2, .arr 3 [.agg [.int .i64 0, .nil, .int .i64 0]], g2), (5, .arr 3 [.agg [.int .i64 f.Vars, .sl 3 rg 96 g6 0 x2.length, .int .i64 0]], g3), (29, .arr 1 (List.map (AV.int .i64) (set' to1 (f.Vars + x1) (f.Vars + (x2.length : Int)))), g4), (96, .arr 3 (List.map eNode x2), g6)]) (sc rfl (sc rfl (sc rfl (sc rfl (sc rfl (sn))))))) ?_
    refine wZ rg (o_bslice td66 ok154 zav154 (es := [.agg [.int .i64 ((at' f.Nodes x1).Kind), .int .i64 ((at' f.Nodes x1).K), eL (AV.int .i64) x4]]) rfl (kk := 3) rfl rfl rfl rfl rfl rfl (fun g14 => ?_))
    refine wZ rg (o_appR td66 bts154 ok154 zav154 (es := x2) (xs := [(⟨(at' f.Nodes x1).Kind, (at' f.Nodes x1).K, x4⟩ : GNode)]) (enc := eNode) (atL (k := 96) rfl) (by first | rfl | omega | (simp only [go_sem] <;> omega)) (view_rowE (atL (k := 95) rfl) (by first | rfl | omega | (simp only [go_sem] <;> omega))) (kk := 3) rfl rfl (fun _ => rfl) (fun _ => rfl) h.1 rfl (fun _ => setL) (fun g15 => ?_))
    replace h := h.2
    refine wZ rg (o_faP td68 rfl rfl (by rw [sz66]; decide) rfl (wZ rg (o_storeB (atL (k := 5) rfl) sz66 (by decide) rfl (w := .sl 3 rg 96 g15 0 ((x2 ++ [(⟨(at' f.Nodes x1).Kind, (at' f.Nodes x1).K, x4⟩ : GNode)]).length)) rfl rfl rfl (v := .agg [.int .i64 f.Vars, .sl 3 rg 96 g15 0 ((x2 ++ [(⟨(at' f.Nodes x1).Kind, (at' f.Nodes x1).K, x4⟩ : GNode)]).length), .int .i64 0]) rfl setL (nZ (rZ ?_)))))
    refine wZ rg (o_addG rfl rfl h.1 ?_)
    replace h := h.2
    refine mvZ (.int .i64 (x1 + 1)) rfl (nZ ?_)
    exact ⟨(((x1 + 1), (set' to1 (f.Vars + x1) (f.Vars + (x2.length : Int))), (x2 ++ [(⟨(at' f.Nodes x1).Kind, (at' f.Nodes x1).K, x4⟩ : GNode)])), g15), (canon (fc vr (fc vr (fc vr (fc (VW.slen (by first | rfl | omega | (simp only [go_sem] <;> omega))) (fc vr (fc vr (fc vr (fn)))))))) (sc rfl (sc rfl (sc rfl (sc rfl (sc rfl (sn))))))), h⟩
  replace h := h.2 hb2
  refine Vc.exit' (exB_self ?_)
  refine qZ (rZ (mvZ (.sl 1 rg 29 g4 0 to1.length) rfl (wZ rg (o_faP td68 rfl rfl (by rw [sz3]; decide) rfl (wZ rg (o_loadB1 (atL (k := 1) rfl) sz3 ag3 rfl rfl (v := .int .i64 f.Top) rfl (wZ rg (o_idxR0 td22 sz3 (by decide) rfl rfl h.1 ?_))))))))
  have hi3 := h.1
  replace h := h.2
  refine wZ rg (o_loadR1 (atL (k := 29) rfl) sz3 ag3 rfl (lt_of hi3 (by first | rfl | omega | (simp only [go_sem] <;> omega))) rfl (v := .int .i64 (at' to1 f.Top)) rfl (wZ rg (o_faP td68 rfl rfl (by rw [sz3]; decide) rfl ?_)))
  refine wZ rg (o_storeB (atL (k := 5) rfl) sz3 (by decide) rfl (w := .int .i64 (at' to1 f.Top)) rfl rfl rfl (v := .agg [.int .i64 f.Vars, .sl 3 rg 96 g6 0 x2.length, .int .i64 (at' to1 f.Top)]) rfl setL (nZ (qZ (rZ (wZ rg (o_loadBA (atL (k := 5) rfl) sz68 (by decide) ag68 rfl rfl (v := .agg [.int .i64 f.Vars, .sl 3 rg 96 g6 0 x2.length, .int .i64 (at' to1 f.Top)]) rfl ?_))))))
  refine wZ rg (o_storeB (atL (k := 2) rfl) sz68 (by decide) rfl (w := .agg [.int .i64 f.Vars, .sl 3 rg 96 g6 0 x2.length, .int .i64 (at' to1 f.Top)]) rfl rfl rfl (v := .agg [.int .i64 f.Vars, .sl 3 rg 96 g6 0 x2.length, .int .i64 (at' to1 f.Top)]) rfl setL (asZ .niface rfl (nZ ?_)))
  refine Vc.ret' ?_
  refine res_cellA (atL (k := 2) rfl) sz68 (by decide) ag68 rfl rfl (v := .agg [.int .i64 f.Vars, .sl 3 rg 96 g6 0 x2.length, .int .i64 (at' to1 f.Top)]) rfl (res_tmp (v := .niface) rfl (res_nil ?_))
  show Gives _ (.tuple [.agg [.int .i64 f.Vars, .sl 3 rg 96 g6 0 x2.length, .int .i64 (at' to1 f.Top)], .niface]) _
  refine gives_freeze (k := 96) (xs := List.map eNode x2) rfl (v' := .tuple [.agg [.int .i64 f.Vars, eL eNode x2, .int .i64 (at' to1 f.Top)], .niface]) (VW.tupL (vl' (VW.aggL (vl' vr (vl' (frz_full rfl) (vl' vr (vn))))) (vl' vr (vn)))) ?_
  exact gives_out hrg (VW.tupL (vl' vr (vl' vr (vn)))) (hQ _ _ h)
end Go.Proofs.Ytllegjdggcmgaaa
