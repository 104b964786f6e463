/- Walks of functions. Conditions: none. -/
import Derived.Test.YtonbnfgknijpoaaWF
import Derived.Test.YtonbnfgknijpoaaGgTy
namespace Go.Proofs.Ytonbnfgknijpoaa
open Go.Gg
set_option maxRecDepth 100000
theorem ref08_node_ctr {f : GFormula} {i : Int} {Q : Int → Prop} {S : St} {R : AV → St → Prop} (h : ref08_node_W f i Q) (hQ : ∀ r1, Q r1 → R (AV.int .i64 r1) S) :
    Ctr Try.prog 157 [eFormula f, AV.int .i64 i] S R := by
  unfold ref08_node_W at h
  refine enterT Try.func157 rfl Try.ntmps157 Try.results157 (by kernel_rfl) (fun rg hrg => ?_)
  refine qZ (rZ (wZ rg (o_box (v := eFormula f) rfl rfl (kk := 3) rfl (by decide) (fun g1 => (asZ (.int .i64 0) rfl (nZ (qZ (rZ (wZ rg (o_faP td70 rfl rfl (by rw [sz68]; decide) rfl (wZ rg (o_loadB1 (atL (k := 2) rfl) sz68 ag68 rfl rfl (v := eL eNode f.Nodes) rfl (mvZ (.int .i64 i) rfl (wZ rg (o_idxL td68 sz78 (by decide) (fun _ => rfl) rfl rfl h.1 ?_)))))))))))))))
  replace h := h.2
  refine wZ rg (o_loadIA sz78 (by decide) ag78 rfl rfl (v := eNode (at' f.Nodes i)) rfl (wZ rg (o_alloc zav78 ok78 (kk := 3) rfl (fun g2 => (wZ rg (o_storeB (atL (k := 5) rfl) sz78 (by decide) rfl (w := eNode (at' f.Nodes i)) rfl rfl rfl (v := eNode (at' f.Nodes i)) rfl setL (nZ (qZ (rZ (asZ (.int .i64 1) rfl (asZ (.int .i64 16) rfl (nZ ?_))))))))))))
  obtain ⟨J, h, hJ⟩ := h
  refine Vc.join' (σ := ((Int × Int) × (Nat × Nat))) (fun y => J y.1) (fun y => envOf [(1, .int .i64 i), (2, .ptr rg 2 y.2.1 0 0), (5, .ptr rg 5 y.2.2 0 0), (6, .int .i64 y.1.1), (7, .int .i64 y.1.2)]) (fun y => stL S rg [(2, .arr 3 [eFormula f], y.2.1), (5, .arr 3 [eNode (at' f.Nodes i)], y.2.2)]) (fun y h => ?_) ?_
  · obtain ⟨⟨least, most⟩, ⟨g3, g4⟩⟩ := y
    replace h := hJ (least, most) h
    show Vc _ _ _ _ (envOf [(1, .int .i64 i), (2, .ptr rg 2 g3 0 0), (5, .ptr rg 5 g4 0 0), (6, .int .i64 least), (7, .int .i64 most)]) (stL S rg [(2, .arr 3 [eFormula f], g3), (5, .arr 3 [eNode (at' f.Nodes i)], g4)])
    refine qZ (qZ (rZ (wZ rg (o_faP td78 rfl rfl (by rw [sz76]; decide) rfl (wZ rg (o_loadB1 (atL (k := 5) rfl) sz76 ag76 rfl rfl (v := eL (AV.int .i64) ((at' f.Nodes i).Args)) rfl (wZ rg (o_len td76 rfl (mvZ (.int .i64 least) rfl (wZ rg (o_lss rfl rfl (mvZ (.bool (decide ((((at' f.Nodes i).Args).length : Int) < least))) rfl ?_))))))))))))
    refine Wl.guard rfl rfl (fun hb => ?_) (fun hb => ?_)
    · replace h := h.2 hb
      refine wZ rg (o_faP td78 rfl rfl (by rw [sz76]; decide) rfl ?_)
      refine Wl.guardT rfl rfl hb ?_
      refine wZ rg (o_loadB1 (atL (k := 5) rfl) sz76 ag76 rfl rfl (v := eL (AV.int .i64) ((at' f.Nodes i).Args)) rfl ?_)
      refine Wl.guardT rfl rfl hb ?_
      refine wZ rg (o_len td76 rfl ?_)
      refine Wl.guardT rfl rfl hb ?_
      refine mvZ (.int .i64 most) rfl ?_
      refine Wl.guardT rfl rfl hb ?_
      refine wZ rg (o_gtr rfl rfl (wZ rg (o_pickF rfl hb (v := .bool (decide (most < (((at' f.Nodes i).Args).length : Int)))) rfl (nZ ?_))))
      refine Vc.cond' rfl (fun hb1 => ?_) (fun hb1 => ?_)
      · replace h := h.1 hb1
        refine qZ (rZ (asZ (.int .i64 11) rfl (nZ ?_)))
        refine Vc.ret' ?_
        refine res_tmp (v := .int .i64 11) rfl (res_nil ?_)
        show Gives _ (.int .i64 11) _
        exact gives_out hrg (VW.refl _) (hQ _ h)
      replace h := h.2 hb1
      refine Vc.skip' ?_
      refine qZ (qZ (rZ (wZ rg (o_faP td78 rfl rfl (by rw [sz76]; decide) rfl (wZ rg (o_loadB1 (atL (k := 5) rfl) sz76 ag76 rfl rfl (v := eL (AV.int .i64) ((at' f.Nodes i).Args)) rfl (wZ rg (o_len td76 rfl (mvZ (.int .i64 0) rfl (nZ ?_))))))))))
      refine Vc.blk ?_
      obtain ⟨I, μ, h0, hI⟩ := h
      refine Vc.loop' (σ := (Int)) (fun y => I y) (fun y => μ y) (fun y => envOf [(1, .int .i64 i), (2, .ptr rg 2 g3 0 0), (5, .ptr rg 5 g4 0 0), (39, eL (AV.int .i64) ((at' f.Nodes i).Args)), (40, .int .i64 (((at' f.Nodes i).Args).length : Int)), (41, .int .i64 y)]) (fun y => stL S rg [(2, .arr 3 [eFormula f], g3), (5, .arr 3 [eNode (at' f.Nodes i)], g4)]) 0 (canon (fc vr (fc vr (fc vr (fc vr (fc vr (fc vr (fn))))))) (sc rfl (sc rfl (sn)))) h0 (fun x h => ?_)
      replace h := hI x h
      show Vc _ _ _ _ (envOf [(1, .int .i64 i), (2, .ptr rg 2 g3 0 0), (5, .ptr rg 5 g4 0 0), (39, eL (AV.int .i64) ((at' f.Nodes i).Args)), (40, .int .i64 (((at' f.Nodes i).Args).length : Int)), (41, .int .i64 x)]) (stL S rg [(2, .arr 3 [eFormula f], g3), (5, .arr 3 [eNode (at' f.Nodes i)], g4)])
      refine qZ (rZ (wZ rg (o_lss rfl rfl (nZ (qZ ?_)))))
      refine Vc.cond' rfl (fun hb2 => ?_) (fun hb2 => ?_)
      · replace h := h.1 hb2
        refine Vc.skip' ?_
        refine qZ ?_
        refine Vc.blk ?_
        refine qZ (rZ (wZ rg (o_idxL td76 sz3 (by decide) (fun _ => rfl) rfl rfl h.1 ?_)))
        replace h := h.2
        refine wZ rg (o_loadI1 sz3 ag3 rfl rfl (v := .int .i64 (at' ((at' f.Nodes i).Args) x)) rfl (asZ (.int .i64 (at' ((at' f.Nodes i).Args) x)) rfl (nZ (qZ (rZ (mvZ (.int .i64 (at' ((at' f.Nodes i).Args) x)) rfl (wZ rg (o_lss rfl rfl (mvZ (.bool (decide ((at' ((at' f.Nodes i).Args) x) < 0))) rfl ?_)))))))))
        refine Wl.guard rfl rfl (fun hb3 => ?_) (fun hb3 => ?_)
        · replace h := h.2 hb3
          refine mvZ (.int .i64 (at' ((at' f.Nodes i).Args) x)) rfl ?_
          refine Wl.guardT rfl rfl hb3 ?_
          refine wZ rg (o_faP td70 rfl rfl (by rw [sz3]; decide) rfl ?_)
          refine Wl.guardT rfl rfl hb3 ?_
          refine wZ rg (o_loadB1 (atL (k := 2) rfl) sz3 ag3 rfl rfl (v := .int .i64 f.Vars) rfl ?_)
          refine Wl.guardT rfl rfl hb3 ?_
          refine mvZ (.int .i64 i) rfl ?_
          refine Wl.guardT rfl rfl hb3 ?_
          refine wZ rg (o_addG rfl rfl h.1 ?_)
          replace h := h.2
          refine Wl.guardT rfl rfl hb3 ?_
          refine wZ rg (o_geq rfl rfl (wZ rg (o_pickF rfl hb3 (v := .bool (decide ((f.Vars + i) ≤ (at' ((at' f.Nodes i).Args) x)))) rfl (nZ ?_))))
          refine Vc.cond' rfl (fun hb4 => ?_) (fun hb4 => ?_)
          · replace h := h.1 hb4
            refine qZ (rZ (asZ (.int .i64 10) rfl (nZ ?_)))
            refine Vc.ret' ?_
            refine res_tmp (v := .int .i64 10) rfl (res_nil ?_)
            show Gives _ (.int .i64 10) _
            exact gives_out hrg (VW.refl _) (hQ _ h)
          replace h := h.2 hb4
          refine Vc.skip' ?_
          refine rZ ?_
          refine wZ rg (o_addG rfl rfl h.1 ?_)
          replace h := h.2
          refine mvZ (.int .i64 (x + 1)) rfl (nZ ?_)
          exact ⟨(x + 1), (canon (fc vr (fc vr (fc vr (fc vr (fc vr (fc vr (fn))))))) (sc rfl (sc rfl (sn)))), h⟩
        replace h := h.1 hb3
        refine Wl.guardF rfl rfl hb3 rfl ?_
        refine Wl.guardF rfl rfl hb3 rfl ?_
        refine Wl.guardF rfl rfl hb3 rfl ?_
        refine Wl.guardF rfl rfl hb3 rfl ?_
        refine Wl.guardF rfl rfl hb3 rfl ?_
        refine wZ rg (o_pickT rfl hb3 (v := .bool true) rfl (nZ ?_))
        refine Vc.cond' rfl (fun _ => ?_) (fun hb => Bool.noConfusion hb)
        refine qZ (rZ (asZ (.int .i64 10) rfl (nZ ?_)))
        refine Vc.ret' ?_
        refine res_tmp (v := .int .i64 10) rfl (res_nil ?_)
        show Gives _ (.int .i64 10) _
        exact gives_out hrg (VW.refl _) (hQ _ h)
      replace h := h.2 hb2
      refine Vc.exit' (exB_self ?_)
      refine qZ (qZ (rZ (wZ rg (o_faP td78 rfl rfl (by rw [sz3]; decide) rfl (wZ rg (o_loadB1 (atL (k := 5) rfl) sz3 ag3 rfl rfl (v := .int .i64 ((at' f.Nodes i).Kind)) rfl (nZ ?_)))))))
      refine Vc.blk ?_
      refine qZ (rZ (wZ rg (o_eql rfl rfl (asZ (.bool ((at' f.Nodes i).Kind == 0)) rfl (nZ ?_)))))
      refine Vc.cond' rfl (fun hb5 => ?_) (fun hb5 => ?_)
      · replace h := h.1 hb5
        refine qZ (rZ (wZ rg (o_faP td78 rfl rfl (by rw [sz3]; decide) rfl (wZ rg (o_loadB1 (atL (k := 5) rfl) sz3 ag3 rfl rfl (v := .int .i64 ((at' f.Nodes i).K)) rfl (wZ rg (o_neq rfl rfl (mvZ (.bool ((at' f.Nodes i).K != 0)) rfl ?_))))))))
        refine Wl.guard rfl rfl (fun hb6 => ?_) (fun hb6 => ?_)
        · replace h := h.1 hb6
          refine wZ rg (o_faP td78 rfl rfl (by rw [sz3]; decide) rfl ?_)
          refine Wl.guardT rfl rfl hb6 ?_
          refine wZ rg (o_loadB1 (atL (k := 5) rfl) sz3 ag3 rfl rfl (v := .int .i64 ((at' f.Nodes i).K)) rfl ?_)
          refine Wl.guardT rfl rfl hb6 ?_
          refine wZ rg (o_neq rfl rfl (wZ rg (o_pickT rfl hb6 (v := .bool ((at' f.Nodes i).K != 1)) rfl (nZ ?_))))
          refine Vc.cond' rfl (fun hb7 => ?_) (fun hb7 => ?_)
          · replace h := h.1 hb7
            refine qZ (rZ (asZ (.int .i64 3) rfl (nZ ?_)))
            refine Vc.ret' ?_
            refine res_tmp (v := .int .i64 3) rfl (res_nil ?_)
            show Gives _ (.int .i64 3) _
            exact gives_out hrg (VW.refl _) (hQ _ h)
          replace h := h.2 hb7
          refine Vc.skip' ?_
          refine qZ (rZ (asZ (.int .i64 0) rfl (nZ ?_)))
          refine Vc.ret' ?_
          refine res_tmp (v := .int .i64 0) rfl (res_nil ?_)
          show Gives _ (.int .i64 0) _
          exact gives_out hrg (VW.refl _) (hQ _ h)
        replace h := h.2 hb6
        refine Wl.guardF rfl rfl hb6 rfl ?_
        refine Wl.guardF rfl rfl hb6 rfl ?_
        refine wZ rg (o_pickF rfl hb6 (v := .bool false) rfl (nZ ?_))
        refine Vc.cond' rfl (fun hb => Bool.noConfusion hb) (fun _ => ?_)
        refine Vc.skip' ?_
        refine qZ (rZ (asZ (.int .i64 0) rfl (nZ ?_)))
        refine Vc.ret' ?_
        refine res_tmp (v := .int .i64 0) rfl (res_nil ?_)
        show Gives _ (.int .i64 0) _
        exact gives_out hrg (VW.refl _) (hQ _ h)
      replace h := h.2 hb5
      refine qZ (rZ (wZ rg (o_eql rfl rfl (asZ (.bool ((at' f.Nodes i).Kind == 4)) rfl (nZ ?_)))))
      refine Vc.cond' rfl (fun hb8 => ?_) (fun hb8 => ?_)
      · replace h := h.1 hb8
        refine qZ (rZ (wZ rg (o_faP td78 rfl rfl (by rw [sz3]; decide) rfl (wZ rg (o_loadB1 (atL (k := 5) rfl) sz3 ag3 rfl rfl (v := .int .i64 ((at' f.Nodes i).K)) rfl (wZ rg (o_lss rfl rfl (mvZ (.bool (decide ((at' f.Nodes i).K < 1))) rfl ?_))))))))
        refine Wl.guard rfl rfl (fun hb9 => ?_) (fun hb9 => ?_)
        · replace h := h.2 hb9
          refine wZ rg (o_faP td78 rfl rfl (by rw [sz3]; decide) rfl ?_)
          refine Wl.guardT rfl rfl hb9 ?_
          refine wZ rg (o_loadB1 (atL (k := 5) rfl) sz3 ag3 rfl rfl (v := .int .i64 ((at' f.Nodes i).K)) rfl ?_)
          refine Wl.guardT rfl rfl hb9 ?_
          refine wZ rg (o_faP td78 rfl rfl (by rw [sz76]; decide) rfl ?_)
          refine Wl.guardT rfl rfl hb9 ?_
          refine wZ rg (o_loadB1 (atL (k := 5) rfl) sz76 ag76 rfl rfl (v := eL (AV.int .i64) ((at' f.Nodes i).Args)) rfl ?_)
          refine Wl.guardT rfl rfl hb9 ?_
          refine wZ rg (o_len td76 rfl ?_)
          refine Wl.guardT rfl rfl hb9 ?_
          refine wZ rg (o_gtr rfl rfl (wZ rg (o_pickF rfl hb9 (v := .bool (decide ((((at' f.Nodes i).Args).length : Int) < (at' f.Nodes i).K))) rfl (nZ ?_))))
          refine Vc.cond' rfl (fun hb10 => ?_) (fun hb10 => ?_)
          · replace h := h.1 hb10
            refine qZ (rZ (asZ (.int .i64 3) rfl (nZ ?_)))
            refine Vc.ret' ?_
            refine res_tmp (v := .int .i64 3) rfl (res_nil ?_)
            show Gives _ (.int .i64 3) _
            exact gives_out hrg (VW.refl _) (hQ _ h)
          replace h := h.2 hb10
          refine Vc.skip' ?_
          refine qZ (rZ (asZ (.int .i64 0) rfl (nZ ?_)))
          refine Vc.ret' ?_
          refine res_tmp (v := .int .i64 0) rfl (res_nil ?_)
          show Gives _ (.int .i64 0) _
          exact gives_out hrg (VW.refl _) (hQ _ h)
        replace h := h.1 hb9
        refine Wl.guardF rfl rfl hb9 rfl ?_
        refine Wl.guardF rfl rfl hb9 rfl ?_
        refine Wl.guardF rfl rfl hb9 rfl ?_
        refine Wl.guardF rfl rfl hb9 rfl ?_
        refine Wl.guardF rfl rfl hb9 rfl ?_
        refine wZ rg (o_pickT rfl hb9 (v := .bool true) rfl (nZ ?_))
        refine Vc.cond' rfl (fun _ => ?_) (fun hb => Bool.noConfusion hb)
        refine qZ (rZ (asZ (.int .i64 3) rfl (nZ ?_)))
        refine Vc.ret' ?_
        refine res_tmp (v := .int .i64 3) rfl (res_nil ?_)
        show Gives _ (.int .i64 3) _
        exact gives_out hrg (VW.refl _) (hQ _ h)
      replace h := h.2 hb8
      refine qZ (rZ (wZ rg (o_faP td78 rfl rfl (by rw [sz3]; decide) rfl (wZ rg (o_loadB1 (atL (k := 5) rfl) sz3 ag3 rfl rfl (v := .int .i64 ((at' f.Nodes i).K)) rfl (wZ rg (o_neq rfl rfl (nZ ?_))))))))
      refine Vc.cond' rfl (fun hb11 => ?_) (fun hb11 => ?_)
      · replace h := h.1 hb11
        refine qZ (rZ (asZ (.int .i64 2) rfl (nZ ?_)))
        refine Vc.ret' ?_
        refine res_tmp (v := .int .i64 2) rfl (res_nil ?_)
        show Gives _ (.int .i64 2) _
        exact gives_out hrg (VW.refl _) (hQ _ h)
      replace h := h.2 hb11
      refine Vc.skip' ?_
      refine qZ (rZ (asZ (.int .i64 0) rfl (nZ ?_)))
      refine Vc.ret' ?_
      refine res_tmp (v := .int .i64 0) rfl (res_nil ?_)
      show Gives _ (.int .i64 0) _
      exact gives_out hrg (VW.refl _) (hQ _ h)
    replace h := h.1 hb
    refine Wl.guardF rfl rfl hb rfl ?_
    refine Wl.guardF rfl rfl hb rfl ?_
    refine Wl.guardF rfl rfl hb rfl ?_
    refine Wl.guardF rfl rfl hb rfl ?_
    refine wZ rg (o_pickT rfl hb (v := .bool true) rfl (nZ ?_))
    refine Vc.cond' rfl (fun _ => ?_) (fun hb => Bool.noConfusion hb)
    refine qZ (rZ (asZ (.int .i64 11) rfl (nZ ?_)))
    refine Vc.ret' ?_
    refine res_tmp (v := .int .i64 11) rfl (res_nil ?_)
    show Gives _ (.int .i64 11) _
    exact gives_out hrg (VW.refl _) (hQ _ h)
  refine qZ (rZ (wZ rg (o_faP td78 rfl rfl (by rw [sz3]; decide) rfl (wZ rg (o_loadB1 (atL (k := 5) rfl) sz3 ag3 rfl rfl (v := .int .i64 ((at' f.Nodes i).Kind)) rfl (nZ ?_))))))
  refine Vc.blk ?_
  refine qZ (rZ (wZ rg (o_eql rfl rfl (asZ (.bool ((at' f.Nodes i).Kind == 0)) rfl (nZ ?_)))))
  refine Vc.cond' rfl (fun hb12 => ?_) (fun hb12 => ?_)
  · replace h := h.1 hb12
    refine rZ ?_
    refine asZ (.int .i64 0) rfl (asZ (.int .i64 0) rfl (nZ ?_))
    exact ⟨((0, 0), (g1, g2)), (canon (fc vr (fc vr (fc vr (fc vr (fc vr (fn)))))) (sc rfl (sc rfl (sn)))), h⟩
  replace h := h.2 hb12
  refine qZ (rZ (wZ rg (o_eql rfl rfl (asZ (.bool ((at' f.Nodes i).Kind == 1)) rfl (nZ ?_)))))
  refine Vc.cond' rfl (fun hb13 => ?_) (fun hb13 => ?_)
  · replace h := h.1 hb13
    refine rZ ?_
    refine asZ (.int .i64 1) rfl (nZ ?_)
    exact ⟨((1, 1), (g1, g2)), (canon (fc vr (fc vr (fc vr (fc vr (fc vr (fn)))))) (sc rfl (sc rfl (sn)))), h⟩
  replace h := h.2 hb13
  refine qZ (qZ (rZ (wZ rg (o_eql rfl rfl (asZ (.bool ((at' f.Nodes i).Kind == 2)) rfl (nZ ?_))))))
  refine Vc.cond' rfl (fun hb14 => ?_) (fun hb14 => ?_)
  · replace h := h.1 hb14
    refine Vc.skip' ?_
    refine Vc.condT rfl hb14 ?_
    refine Vc.skip' ?_
    exact ⟨((1, 16), (g1, g2)), (canon (fc vr (fc vr (fc vr (fc vr (fc vr (fn)))))) (sc rfl (sc rfl (sn)))), h⟩
  replace h := h.2 hb14
  refine qZ (rZ (wZ rg (o_eql rfl rfl (asZ (.bool ((at' f.Nodes i).Kind == 3)) rfl (nZ ?_)))))
  refine Vc.cond' rfl (fun hb15 => ?_) (fun hb15 => ?_)
  · replace h := h.1 hb15
    refine Vc.skip' ?_
    refine Vc.condT rfl hb15 ?_
    refine Vc.skip' ?_
    exact ⟨((1, 16), (g1, g2)), (canon (fc vr (fc vr (fc vr (fc vr (fc vr (fn)))))) (sc rfl (sc rfl (sn)))), h⟩
  replace h := h.2 hb15
  refine qZ (rZ (wZ rg (o_eql rfl rfl (asZ (.bool ((at' f.Nodes i).Kind == 4)) rfl (nZ ?_)))))
  refine Vc.cond' rfl (fun hb16 => ?_) (fun hb16 => ?_)
  · replace h := h.1 hb16
    refine Vc.skip' ?_
    refine Vc.condT rfl hb16 ?_
    refine Vc.skip' ?_
    exact ⟨((1, 16), (g1, g2)), (canon (fc vr (fc vr (fc vr (fc vr (fc vr (fn)))))) (sc rfl (sc rfl (sn)))), h⟩
  replace h := h.2 hb16
  refine rZ ?_
  refine wZ rg (o_eql rfl rfl (asZ (.bool ((at' f.Nodes i).Kind == 5)) rfl (nZ ?_)))
  refine Vc.cond' rfl (fun hb17 => ?_) (fun hb17 => ?_)
  · replace h := h.1 hb17
    refine Vc.skip' ?_
    exact ⟨((1, 16), (g1, g2)), (canon (fc vr (fc vr (fc vr (fc vr (fc vr (fn)))))) (sc rfl (sc rfl (sn)))), h⟩
  replace h := h.2 hb17
  refine qZ (rZ (asZ (.int .i64 7) rfl (nZ ?_)))
  refine Vc.ret' ?_
  refine res_tmp (v := .int .i64 7) rfl (res_nil ?_)
  show Gives _ (.int .i64 7) _
  exact gives_out hrg (VW.refl _) (hQ _ h)
theorem ref08_Valid_ctr {f : GFormula} {arg : Int} {Q : Bool → Prop} {S : St} {R : AV → St → Prop} (h : ref08_Valid_W f arg Q) (hQ : ∀ r1, Q r1 → R (AV.bool r1) S) :
    Ctr Try.prog 158 [eFormula f, AV.int .i64 arg] S R := by
  unfold ref08_Valid_W at h
  refine enterT Try.func158 rfl Try.ntmps158 Try.results158 (by kernel_rfl) (fun rg hrg => ?_)
  refine qZ (rZ (wZ rg (o_box (v := eFormula f) rfl rfl (kk := 3) rfl (by decide) (fun g1 => (asZ (.bool false) rfl (nZ (qZ (rZ (wZ rg (o_faP td70 rfl rfl (by rw [sz3]; decide) rfl (wZ rg (o_loadB1 (atL (k := 2) rfl) sz3 ag3 rfl rfl (v := .int .i64 f.Vars) rfl (wZ rg (o_geq rfl rfl (mvZ (.bool (decide (0 ≤ f.Vars))) rfl ?_)))))))))))))))
  refine Wl.guard rfl rfl (fun hb => ?_) (fun hb => ?_)
  · replace h := h.1 hb
    refine mvZ (.int .i64 arg) rfl ?_
    refine Wl.guardT rfl rfl hb ?_
    refine wZ rg (o_geq rfl rfl (wZ rg (o_pickT rfl hb (v := .bool (decide (0 ≤ arg))) rfl (mvZ (.bool (decide (0 ≤ arg))) rfl ?_))))
    refine Wl.guard rfl rfl (fun hb1 => ?_) (fun hb1 => ?_)
    · replace h := h.1 hb1
      refine mvZ (.int .i64 arg) rfl ?_
      refine Wl.guardT rfl rfl hb1 ?_
      refine wZ rg (o_faP td70 rfl rfl (by rw [sz3]; decide) rfl ?_)
      refine Wl.guardT rfl rfl hb1 ?_
      refine wZ rg (o_loadB1 (atL (k := 2) rfl) sz3 ag3 rfl rfl (v := .int .i64 f.Vars) rfl ?_)
      refine Wl.guardT rfl rfl hb1 ?_
      refine wZ rg (o_lss rfl rfl ?_)
      refine Wl.guardT rfl rfl hb1 ?_
      refine mvZ (.bool (decide (arg < f.Vars))) rfl ?_
      refine Wl.guard rfl rfl (fun hb2 => ?_) (fun hb2 => ?_)
      · replace h := h.2 hb2
        refine mvZ (.int .i64 arg) rfl ?_
        refine Wl.guardT rfl rfl hb2 ?_
        refine wZ rg (o_faP td70 rfl rfl (by rw [sz3]; decide) rfl ?_)
        refine Wl.guardT rfl rfl hb2 ?_
        refine wZ rg (o_loadB1 (atL (k := 2) rfl) sz3 ag3 rfl rfl (v := .int .i64 f.Vars) rfl ?_)
        refine Wl.guardT rfl rfl hb2 ?_
        refine wZ rg (o_subG rfl rfl h.1 ?_)
        replace h := h.2
        refine Wl.guardT rfl rfl hb2 ?_
        refine wZ rg (o_faP td70 rfl rfl (by rw [sz68]; decide) rfl ?_)
        refine Wl.guardT rfl rfl hb2 ?_
        refine wZ rg (o_loadB1 (atL (k := 2) rfl) sz68 ag68 rfl rfl (v := eL eNode f.Nodes) rfl ?_)
        refine Wl.guardT rfl rfl hb2 ?_
        refine wZ rg (o_len td68 rfl ?_)
        refine Wl.guardT rfl rfl hb2 ?_
        refine wZ rg (o_lss rfl rfl ?_)
        refine Wl.guardT rfl rfl hb1 ?_
        refine wZ rg (o_pickF rfl hb2 (v := .bool (decide ((arg - f.Vars) < (f.Nodes.length : Int)))) rfl (wZ rg (o_pickT rfl hb1 (v := .bool (decide ((arg - f.Vars) < (f.Nodes.length : Int)))) rfl (asZ (.bool (decide ((arg - f.Vars) < (f.Nodes.length : Int)))) rfl (nZ ?_)))))
        refine Vc.ret' ?_
        refine res_tmp (v := .bool (decide ((arg - f.Vars) < (f.Nodes.length : Int)))) rfl (res_nil ?_)
        show Gives _ (.bool (decide ((arg - f.Vars) < (f.Nodes.length : Int)))) _
        exact gives_out hrg (VW.refl _) (hQ _ h)
      replace h := h.1 hb2
      refine Wl.guardF rfl rfl hb2 rfl ?_
      refine Wl.guardF rfl rfl hb2 rfl ?_
      refine Wl.guardF rfl rfl hb2 rfl ?_
      refine Wl.guardF rfl rfl hb2 rfl ?_
      refine Wl.guardF rfl rfl hb2 rfl ?_
      refine Wl.guardF rfl rfl hb2 rfl ?_
      refine Wl.guardF rfl rfl hb2 rfl ?_
      refine Wl.guardT rfl rfl hb1 ?_
      refine wZ rg (o_pickT rfl hb2 (v := .bool true) rfl (wZ rg (o_pickT rfl hb1 (v := .bool true) rfl (asZ (.bool true) rfl (nZ ?_)))))
      refine Vc.ret' ?_
      refine res_tmp (v := .bool true) rfl (res_nil ?_)
      show Gives _ (.bool true) _
      exact gives_out hrg (VW.refl _) (hQ _ h)
    replace h := h.2 hb1
    refine Wl.guardF rfl rfl hb1 rfl ?_
    refine Wl.guardF rfl rfl hb1 rfl ?_
    refine Wl.guardF rfl rfl hb1 rfl ?_
    refine Wl.guardF rfl rfl hb1 rfl ?_
    refine Wl.guardU rfl rfl ?_
    refine Wl.guardU rfl rfl ?_
    refine Wl.guardU rfl rfl ?_
    refine Wl.guardU rfl rfl ?_
    refine Wl.guardU rfl rfl ?_
    refine Wl.guardU rfl rfl ?_
    refine Wl.guardU rfl rfl ?_
    refine Wl.guardU rfl rfl ?_
    refine Wl.guardF rfl rfl hb1 rfl ?_
    refine wZ rg (o_pickF rfl hb1 (v := .bool false) rfl (asZ (.bool false) rfl (nZ ?_)))
    refine Vc.ret' ?_
    refine res_tmp (v := .bool false) rfl (res_nil ?_)
    show Gives _ (.bool false) _
    exact gives_out hrg (VW.refl _) (hQ _ h)
  replace h := h.2 hb
  refine Wl.guardF rfl rfl hb rfl ?_
  refine wZ rg (o_pickF rfl hb (v := .bool false) rfl (mvZ (.bool false) rfl ?_))
  refine Wl.guardF rfl rfl rfl rfl ?_
  refine Wl.guardF rfl rfl rfl rfl ?_
  refine Wl.guardF rfl rfl rfl rfl ?_
  refine Wl.guardF rfl rfl rfl rfl ?_
  refine Wl.guardF rfl rfl rfl rfl ?_
  refine Wl.guardU rfl rfl ?_
  refine Wl.guardU rfl rfl ?_
  refine Wl.guardU rfl rfl ?_
  refine Wl.guardU rfl rfl ?_
  refine Wl.guardU rfl rfl ?_
  refine Wl.guardU rfl rfl ?_
  refine Wl.guardU rfl rfl ?_
  refine Wl.guardU rfl rfl ?_
  refine Wl.guardF rfl rfl rfl rfl ?_
  refine wZ rg (o_pickF rfl rfl (v := .bool false) rfl (asZ (.bool false) rfl (nZ ?_)))
  refine Vc.ret' ?_
  refine res_tmp (v := .bool false) rfl (res_nil ?_)
  show Gives _ (.bool false) _
  exact gives_out hrg (VW.refl _) (hQ _ h)
theorem ref08_Check_ctr {f : GFormula} {Q : Int → Prop} {S : St} {R : AV → St → Prop} (h : ref08_Check_W f Q) (hQ : ∀ r1, Q r1 → R (AV.int .i64 r1) S) :
    Ctr Try.prog 118 [eFormula f] S R := by
  unfold ref08_Check_W at h
  refine enterT Try.func118 rfl Try.ntmps118 Try.results118 (by kernel_rfl) (fun rg hrg => ?_)
  refine qZ (rZ (wZ rg (o_box (v := eFormula f) rfl rfl (kk := 3) rfl (by decide) (fun g1 => (asZ (.int .i64 0) rfl (nZ (qZ (qZ (rZ (wZ rg (o_faP td70 rfl rfl (by rw [sz3]; decide) rfl (wZ rg (o_loadB1 (atL (k := 1) rfl) sz3 ag3 rfl rfl (v := .int .i64 f.Vars) rfl (wZ rg (o_lss rfl rfl (mvZ (.bool (decide (f.Vars < 0))) rfl ?_))))))))))))))))
  refine Wl.guard rfl rfl (fun hb => ?_) (fun hb => ?_)
  · replace h := h.2 hb
    refine wZ rg (o_faP td70 rfl rfl (by rw [sz3]; decide) rfl ?_)
    refine Wl.guardT rfl rfl hb ?_
    refine wZ rg (o_loadB1 (atL (k := 1) rfl) sz3 ag3 rfl rfl (v := .int .i64 f.Vars) rfl ?_)
    refine Wl.guardT rfl rfl hb ?_
    refine wZ rg (o_gtr rfl rfl (wZ rg (o_pickF rfl hb (v := .bool (decide (24 < f.Vars))) rfl (nZ ?_))))
    refine Vc.cond' rfl (fun hb1 => ?_) (fun hb1 => ?_)
    · replace h := h.1 hb1
      refine qZ (rZ (asZ (.int .i64 3) rfl (nZ ?_)))
      refine Vc.ret' ?_
      refine res_tmp (v := .int .i64 3) rfl (res_nil ?_)
      show Gives _ (.int .i64 3) _
      exact gives_out hrg (VW.refl _) (hQ _ h)
    replace h := h.2 hb1
    refine Vc.skip' ?_
    refine qZ (qZ (rZ (wZ rg (o_faP td70 rfl rfl (by rw [sz68]; decide) rfl (wZ rg (o_loadB1 (atL (k := 1) rfl) sz68 ag68 rfl rfl (v := eL eNode f.Nodes) rfl (wZ rg (o_len td68 rfl (wZ rg (o_gtr rfl rfl (nZ ?_)))))))))))
    refine Vc.cond' rfl (fun hb2 => ?_) (fun hb2 => ?_)
    · replace h := h.1 hb2
      refine qZ (rZ (asZ (.int .i64 4) rfl (nZ ?_)))
      refine Vc.ret' ?_
      refine res_tmp (v := .int .i64 4) rfl (res_nil ?_)
      show Gives _ (.int .i64 4) _
      exact gives_out hrg (VW.refl _) (hQ _ h)
    replace h := h.2 hb2
    refine Vc.skip' ?_
    refine qZ (qZ (rZ (wZ rg (o_faP td70 rfl rfl (by rw [sz68]; decide) rfl (wZ rg (o_loadB1 (atL (k := 1) rfl) sz68 ag68 rfl rfl (v := eL eNode f.Nodes) rfl (wZ rg (o_len td68 rfl (mvZ (.int .i64 0) rfl (nZ ?_))))))))))
    refine Vc.blk ?_
    obtain ⟨I, μ, h0, hI⟩ := h
    refine Vc.loop' (σ := (Int)) (fun y => I y) (fun y => μ y) (fun y => envOf [(1, .ptr rg 1 g1 0 0), (19, .int .i64 (f.Nodes.length : Int)), (20, .int .i64 y)]) (fun y => stL S rg [(1, .arr 3 [eFormula f], g1)]) 0 (canon (fc vr (fc vr (fc vr (fn)))) (sc rfl (sn))) h0 (fun x h => ?_)
    replace h := hI x h
    show Vc _ _ _ _ (envOf [(1, .ptr rg 1 g1 0 0), (19, .int .i64 (f.Nodes.length : Int)), (20, .int .i64 x)]) (stL S rg [(1, .arr 3 [eFormula f], g1)])
    refine qZ (rZ (wZ rg (o_lss rfl rfl (nZ (qZ ?_)))))
    refine Vc.cond' rfl (fun hb3 => ?_) (fun hb3 => ?_)
    · replace h := h.1 hb3
      refine Vc.skip' ?_
      refine qZ ?_
      refine Vc.blk ?_
      refine qZ (rZ (mvZ (.int .i64 x) rfl (asZ (.int .i64 x) rfl (nZ (qZ (rZ (wZ rg (o_loadBA (atL (k := 1) rfl) sz70 (by decide) ag70 rfl rfl (v := eFormula f) rfl (mvZ (.int .i64 x) rfl (wZ rg (o_call (us := [eFormula f, AV.int .i64 x]) rfl (vl' vr (vl' vr (vn))) (ref08_node_ctr h fun e h => (asZ (.int .i64 e) rfl (nZ (qZ (rZ (mvZ (.int .i64 e) rfl (wZ rg (o_neq rfl rfl (nZ ?_))))))))))))))))))))
      refine Vc.cond' rfl (fun hb4 => ?_) (fun hb4 => ?_)
      · replace h := h.1 hb4
        refine qZ (rZ (mvZ (.int .i64 e) rfl (asZ (.int .i64 e) rfl (nZ ?_))))
        refine Vc.ret' ?_
        refine res_tmp (v := .int .i64 e) rfl (res_nil ?_)
        show Gives _ (.int .i64 e) _
        exact gives_out hrg (VW.refl _) (hQ _ h)
      replace h := h.2 hb4
      refine Vc.skip' ?_
      refine rZ ?_
      refine wZ rg (o_addG rfl rfl h.1 ?_)
      replace h := h.2
      refine mvZ (.int .i64 (x + 1)) rfl (nZ ?_)
      exact ⟨(x + 1), (canon (fc vr (fc vr (fc vr (fn)))) (sc rfl (sn))), h⟩
    replace h := h.2 hb3
    refine Vc.exit' (exB_self ?_)
    refine qZ (qZ (rZ (wZ rg (o_loadBA (atL (k := 1) rfl) sz70 (by decide) ag70 rfl rfl (v := eFormula f) rfl (wZ rg (o_faP td70 rfl rfl (by rw [sz3]; decide) rfl (wZ rg (o_loadB1 (atL (k := 1) rfl) sz3 ag3 rfl rfl (v := .int .i64 f.Top) rfl (wZ rg (o_call (us := [eFormula f, AV.int .i64 f.Top]) rfl (vl' vr (vl' vr (vn))) (ref08_Valid_ctr h fun r h => (wZ rg (o_not rfl (nZ ?_))))))))))))))
    refine Vc.cond' rfl (fun hb5 => ?_) (fun hb5 => ?_)
    · replace h := h.1 hb5
      refine qZ (rZ (asZ (.int .i64 10) rfl (nZ ?_)))
      refine Vc.ret' ?_
      refine res_tmp (v := .int .i64 10) rfl (res_nil ?_)
      show Gives _ (.int .i64 10) _
      exact gives_out hrg (VW.refl _) (hQ _ h)
    replace h := h.2 hb5
    refine Vc.skip' ?_
    refine qZ (rZ (asZ (.int .i64 0) rfl (nZ ?_)))
    refine Vc.ret' ?_
    refine res_tmp (v := .int .i64 0) rfl (res_nil ?_)
    show Gives _ (.int .i64 0) _
    exact gives_out hrg (VW.refl _) (hQ _ h)
  replace h := h.1 hb
  refine Wl.guardF rfl rfl hb rfl ?_
  refine Wl.guardF rfl rfl hb rfl ?_
  refine wZ rg (o_pickT rfl hb (v := .bool true) rfl (nZ ?_))
  refine Vc.cond' rfl (fun _ => ?_) (fun hb => Bool.noConfusion hb)
  refine qZ (rZ (asZ (.int .i64 3) rfl (nZ ?_)))
  refine Vc.ret' ?_
  refine res_tmp (v := .int .i64 3) rfl (res_nil ?_)
  show Gives _ (.int .i64 3) _
  exact gives_out hrg (VW.refl _) (hQ _ h)
end Go.Proofs.Ytonbnfgknijpoaa
