/- Walks of functions. Conditions: none. -/
import Derived.Test.YtonbnfgknijpoaaWF
import Derived.Test.YtonbnfgknijpoaaGgTy
namespace Go.Proofs.Ytonbnfgknijpoaa
open Go.Gg
set_option maxRecDepth 100000
theorem formula_arguments_ctr {kind : Int} {n : Int} {Q : Bool → Prop} {S : St} {R : AV → St → Prop} (h : formula_arguments_W kind n Q) (hQ : ∀ r1, Q r1 → R (AV.bool r1) S) :
    Ctr Try.prog 156 [AV.int .i64 kind, AV.int .i64 n] S R := by
  unfold formula_arguments_W at h
  refine enterT Try.func156 rfl Try.ntmps156 Try.results156 (by kernel_rfl) (fun rg hrg => ?_)
  refine qZ (rZ (asZ (.bool false) rfl (nZ (qZ (qZ (rZ (mvZ (.int .i64 kind) rfl (nZ ?_))))))))
  refine Vc.blk ?_
  refine qZ (rZ (wZ rg (o_eql rfl rfl (asZ (.bool (kind == 0)) rfl (nZ ?_)))))
  refine Vc.cond' rfl (fun hb => ?_) (fun hb => ?_)
  · replace h := h.1 hb
    refine qZ (rZ (mvZ (.int .i64 n) rfl (wZ rg (o_eql rfl rfl (asZ (.bool (n == 0)) rfl (nZ ?_))))))
    refine Vc.ret' ?_
    refine res_tmp (v := .bool (n == 0)) rfl (res_nil ?_)
    show Gives _ (.bool (n == 0)) _
    exact gives_out hrg (VW.refl _) (hQ _ h)
  replace h := h.2 hb
  refine qZ (rZ (wZ rg (o_eql rfl rfl (asZ (.bool (kind == 1)) rfl (nZ ?_)))))
  refine Vc.cond' rfl (fun hb1 => ?_) (fun hb1 => ?_)
  · replace h := h.1 hb1
    refine qZ (rZ (mvZ (.int .i64 n) rfl (wZ rg (o_eql rfl rfl (asZ (.bool (n == 1)) rfl (nZ ?_))))))
    refine Vc.ret' ?_
    refine res_tmp (v := .bool (n == 1)) rfl (res_nil ?_)
    show Gives _ (.bool (n == 1)) _
    exact gives_out hrg (VW.refl _) (hQ _ h)
  replace h := h.2 hb1
  refine Vc.skip' ?_
  refine qZ (rZ (mvZ (.int .i64 n) rfl (wZ rg (o_geq rfl rfl (mvZ (.bool (decide (1 ≤ n))) rfl ?_)))))
  refine Wl.guard rfl rfl (fun hb2 => ?_) (fun hb2 => ?_)
  · replace h := h.1 hb2
    refine mvZ (.int .i64 n) rfl ?_
    refine Wl.guardT rfl rfl hb2 ?_
    refine wZ rg (o_leq rfl rfl (wZ rg (o_pickT rfl hb2 (v := .bool (decide (n ≤ 16))) rfl (asZ (.bool (decide (n ≤ 16))) rfl (nZ ?_)))))
    refine Vc.ret' ?_
    refine res_tmp (v := .bool (decide (n ≤ 16))) rfl (res_nil ?_)
    show Gives _ (.bool (decide (n ≤ 16))) _
    exact gives_out hrg (VW.refl _) (hQ _ h)
  replace h := h.2 hb2
  refine Wl.guardF rfl rfl hb2 rfl ?_
  refine wZ rg (o_pickF rfl hb2 (v := .bool false) rfl (asZ (.bool false) rfl (nZ ?_)))
  refine Vc.ret' ?_
  refine res_tmp (v := .bool false) rfl (res_nil ?_)
  show Gives _ (.bool false) _
  exact gives_out hrg (VW.refl _) (hQ _ h)
theorem formula_checkNode_ctr {f : GFormula} {i : Int} {Q : Option Int → Prop} {S : St} {R : AV → St → Prop} (h : formula_checkNode_W f i Q) (hQ : ∀ r1, Q r1 → R (eErr 107 r1) S) :
    Ctr Try.prog 113 [eFormula f, AV.int .i64 i] S R := by
  unfold formula_checkNode_W at h
  refine enterT Try.func113 rfl Try.ntmps113 Try.results113 (by kernel_rfl) (fun rg hrg => ?_)
  refine qZ (rZ (wZ rg (o_box (v := eFormula f) rfl rfl (kk := 3) rfl (by decide) (fun g1 => (asZ .niface rfl (nZ (qZ (rZ (wZ rg (o_faP td70 rfl rfl (by rw [sz68]; decide) rfl (wZ rg (o_loadB1 (atL (k := 2) rfl) sz68 ag68 rfl rfl (v := eL eNode f.Nodes) rfl (mvZ (.int .i64 i) rfl (wZ rg (o_idxL td68 sz78 (by decide) (fun _ => rfl) rfl rfl h.1 ?_)))))))))))))))
  replace h := h.2
  refine wZ rg (o_loadIA sz78 (by decide) ag78 rfl rfl (v := eNode (at' f.Nodes i)) rfl (wZ rg (o_alloc zav78 ok78 (kk := 3) rfl (fun g2 => (wZ rg (o_storeB (atL (k := 5) rfl) sz78 (by decide) rfl (w := eNode (at' f.Nodes i)) rfl rfl rfl (v := eNode (at' f.Nodes i)) rfl setL (nZ (qZ ?_))))))))
  obtain ⟨J, h, hJ⟩ := h
  refine Vc.join' (σ := ((Bool) × (Nat × Nat))) (fun y => J y.1) (fun y => envOf [(1, .int .i64 i), (2, .ptr rg 2 y.2.1 0 0), (5, .ptr rg 5 y.2.2 0 0), (20, .bool y.1)]) (fun y => stL S rg [(2, .arr 3 [eFormula f], y.2.1), (5, .arr 3 [eNode (at' f.Nodes i)], y.2.2)]) (fun y h => ?_) ?_
  · obtain ⟨x, ⟨g3, g4⟩⟩ := y
    replace h := hJ x h
    show Vc _ _ _ _ (envOf [(1, .int .i64 i), (2, .ptr rg 2 g3 0 0), (5, .ptr rg 5 g4 0 0), (20, .bool x)]) (stL S rg [(2, .arr 3 [eFormula f], g3), (5, .arr 3 [eNode (at' f.Nodes i)], g4)])
    refine Vc.cond' rfl (fun hb => ?_) (fun hb => ?_)
    · replace h := h.1 hb
      refine qZ (rZ (wZ rg (o_iface (by rw [td107]; trivial) (v := .int .i64 7) rfl (asZ (.iface 107 (.int .i64 7)) rfl (nZ ?_)))))
      refine Vc.ret' ?_
      refine res_tmp (v := .iface 107 (.int .i64 7)) rfl (res_nil ?_)
      show Gives _ (.iface 107 (.int .i64 7)) _
      exact gives_out hrg (VW.refl _) (hQ _ h)
    replace h := h.2 hb
    refine Vc.skip' ?_
    refine qZ (qZ (rZ (wZ rg (o_faP td78 rfl rfl (by rw [sz3]; decide) rfl (wZ rg (o_loadB1 (atL (k := 5) rfl) sz3 ag3 rfl rfl (v := .int .i64 ((at' f.Nodes i).Kind)) rfl (wZ rg (o_faP td78 rfl rfl (by rw [sz76]; decide) rfl (wZ rg (o_loadB1 (atL (k := 5) rfl) sz76 ag76 rfl rfl (v := eL (AV.int .i64) ((at' f.Nodes i).Args)) rfl (wZ rg (o_len td76 rfl ?_))))))))))))
    refine wZ rg (o_call (us := [AV.int .i64 ((at' f.Nodes i).Kind), AV.int .i64 (((at' f.Nodes i).Args).length : Int)]) rfl (vl' vr (vl' vr (vn))) (formula_arguments_ctr h fun r h => (wZ rg (o_not rfl (nZ ?_)))))
    refine Vc.cond' rfl (fun hb1 => ?_) (fun hb1 => ?_)
    · replace h := h.1 hb1
      refine qZ (rZ (wZ rg (o_iface (by rw [td107]; trivial) (v := .int .i64 11) rfl (asZ (.iface 107 (.int .i64 11)) rfl (nZ ?_)))))
      refine Vc.ret' ?_
      refine res_tmp (v := .iface 107 (.int .i64 11)) rfl (res_nil ?_)
      show Gives _ (.iface 107 (.int .i64 11)) _
      exact gives_out hrg (VW.refl _) (hQ _ h)
    replace h := h.2 hb1
    refine Vc.skip' ?_
    refine qZ (qZ (rZ (wZ rg (o_faP td78 rfl rfl (by rw [sz76]; decide) rfl (wZ rg (o_loadB1 (atL (k := 5) rfl) sz76 ag76 rfl rfl (v := eL (AV.int .i64) ((at' f.Nodes i).Args)) rfl (wZ rg (o_len td76 rfl (mvZ (.int .i64 0) rfl (nZ ?_))))))))))
    refine Vc.blk ?_
    obtain ⟨I, μ, h0, hI⟩ := h
    refine Vc.loop' (σ := ((Int) × (Nat × Nat))) (fun y => I y.1) (fun y => μ y.1) (fun y => envOf [(1, .int .i64 i), (2, .ptr rg 2 y.2.1 0 0), (5, .ptr rg 5 y.2.2 0 0), (31, eL (AV.int .i64) ((at' f.Nodes i).Args)), (32, .int .i64 (((at' f.Nodes i).Args).length : Int)), (33, .int .i64 y.1)]) (fun y => stL S rg [(2, .arr 3 [eFormula f], y.2.1), (5, .arr 3 [eNode (at' f.Nodes i)], y.2.2)]) (0, (g3, g4)) (canon (fc vr (fc vr (fc vr (fc vr (fc vr (fc vr (fn))))))) (sc rfl (sc rfl (sn)))) h0 (fun y h => ?_)
    obtain ⟨x1, ⟨g5, g6⟩⟩ := y
    replace h := hI x1 h
    show Vc _ _ _ _ (envOf [(1, .int .i64 i), (2, .ptr rg 2 g5 0 0), (5, .ptr rg 5 g6 0 0), (31, eL (AV.int .i64) ((at' f.Nodes i).Args)), (32, .int .i64 (((at' f.Nodes i).Args).length : Int)), (33, .int .i64 x1)]) (stL S rg [(2, .arr 3 [eFormula f], g5), (5, .arr 3 [eNode (at' f.Nodes i)], g6)])
    refine qZ (rZ (wZ rg (o_lss rfl rfl (nZ (qZ ?_)))))
    refine Vc.cond' rfl (fun hb2 => ?_) (fun hb2 => ?_)
    · replace h := h.1 hb2
      refine Vc.skip' ?_
      refine qZ ?_
      refine Vc.blk ?_
      refine qZ (rZ (wZ rg (o_idxL td76 sz3 (by decide) (fun _ => rfl) rfl rfl h.1 ?_)))
      replace h := h.2
      refine wZ rg (o_loadI1 sz3 ag3 rfl rfl (v := .int .i64 (at' ((at' f.Nodes i).Args) x1)) rfl (asZ (.int .i64 (at' ((at' f.Nodes i).Args) x1)) rfl (nZ ?_)))
      obtain ⟨J, h, hJ⟩ := h
      refine Vc.join' (σ := ((Bool) × (Nat × Nat))) (fun y => J y.1) (fun y => envOf [(1, .int .i64 i), (2, .ptr rg 2 y.2.1 0 0), (5, .ptr rg 5 y.2.2 0 0), (31, eL (AV.int .i64) ((at' f.Nodes i).Args)), (32, .int .i64 (((at' f.Nodes i).Args).length : Int)), (33, .int .i64 x1), (46, .bool y.1)]) (fun y => stL S rg [(2, .arr 3 [eFormula f], y.2.1), (5, .arr 3 [eNode (at' f.Nodes i)], y.2.2)]) (fun y h => ?_) ?_
      · obtain ⟨x2, ⟨g7, g8⟩⟩ := y
        replace h := hJ x2 h
        show Vc _ _ _ _ (envOf [(1, .int .i64 i), (2, .ptr rg 2 g7 0 0), (5, .ptr rg 5 g8 0 0), (31, eL (AV.int .i64) ((at' f.Nodes i).Args)), (32, .int .i64 (((at' f.Nodes i).Args).length : Int)), (33, .int .i64 x1), (46, .bool x2)]) (stL S rg [(2, .arr 3 [eFormula f], g7), (5, .arr 3 [eNode (at' f.Nodes i)], g8)])
        refine Vc.cond' rfl (fun hb3 => ?_) (fun hb3 => ?_)
        · replace h := h.1 hb3
          refine qZ (rZ (wZ rg (o_iface (by rw [td107]; trivial) (v := .int .i64 10) rfl (asZ (.iface 107 (.int .i64 10)) rfl (nZ ?_)))))
          refine Vc.ret' ?_
          refine res_tmp (v := .iface 107 (.int .i64 10)) rfl (res_nil ?_)
          show Gives _ (.iface 107 (.int .i64 10)) _
          exact gives_out hrg (VW.refl _) (hQ _ h)
        replace h := h.2 hb3
        refine Vc.skip' ?_
        refine rZ ?_
        refine wZ rg (o_addG rfl rfl h.1 ?_)
        replace h := h.2
        refine mvZ (.int .i64 (x1 + 1)) rfl (nZ ?_)
        exact ⟨((x1 + 1), (g7, g8)), (canon (fc vr (fc vr (fc vr (fc vr (fc vr (fc vr (fn))))))) (sc rfl (sc rfl (sn)))), h⟩
      refine rZ ?_
      refine mvZ (.int .i64 (at' ((at' f.Nodes i).Args) x1)) rfl (wZ rg (o_lss rfl rfl (mvZ (.bool (decide ((at' ((at' f.Nodes i).Args) x1) < 0))) rfl ?_)))
      refine Wl.guard rfl rfl (fun hb4 => ?_) (fun hb4 => ?_)
      · replace h := h.2 hb4
        refine mvZ (.int .i64 (at' ((at' f.Nodes i).Args) x1)) rfl ?_
        refine Wl.guardT rfl rfl hb4 ?_
        refine wZ rg (o_faP td70 rfl rfl (by rw [sz3]; decide) rfl ?_)
        refine Wl.guardT rfl rfl hb4 ?_
        refine wZ rg (o_loadB1 (atL (k := 2) rfl) sz3 ag3 rfl rfl (v := .int .i64 f.Vars) rfl ?_)
        refine Wl.guardT rfl rfl hb4 ?_
        refine mvZ (.int .i64 i) rfl ?_
        refine Wl.guardT rfl rfl hb4 ?_
        refine wZ rg (o_addG rfl rfl h.1 ?_)
        replace h := h.2
        refine Wl.guardT rfl rfl hb4 ?_
        refine wZ rg (o_geq rfl rfl (wZ rg (o_pickF rfl hb4 (v := .bool (decide ((f.Vars + i) ≤ (at' ((at' f.Nodes i).Args) x1)))) rfl (nZ ?_))))
        exact ⟨((decide ((f.Vars + i) ≤ (at' ((at' f.Nodes i).Args) x1))), (g5, g6)), (canon (fc vr (fc vr (fc vr (fc vr (fc vr (fc vr (fc vr (fn)))))))) (sc rfl (sc rfl (sn)))), h⟩
      replace h := h.1 hb4
      refine Wl.guardF rfl rfl hb4 rfl ?_
      refine Wl.guardF rfl rfl hb4 rfl ?_
      refine Wl.guardF rfl rfl hb4 rfl ?_
      refine Wl.guardF rfl rfl hb4 rfl ?_
      refine Wl.guardF rfl rfl hb4 rfl ?_
      refine wZ rg (o_pickT rfl hb4 (v := .bool true) rfl (nZ ?_))
      exact ⟨(true, (g5, g6)), (canon (fc vr (fc vr (fc vr (fc vr (fc vr (fc vr (fc vr (fn)))))))) (sc rfl (sc rfl (sn)))), h⟩
    replace h := h.2 hb2
    refine Vc.exit' (exB_self ?_)
    refine qZ (qZ (rZ (wZ rg (o_faP td78 rfl rfl (by rw [sz3]; decide) rfl (wZ rg (o_loadB1 (atL (k := 5) rfl) sz3 ag3 rfl rfl (v := .int .i64 ((at' f.Nodes i).Kind)) rfl (nZ ?_)))))))
    refine Vc.blk ?_
    refine qZ (rZ (wZ rg (o_eql rfl rfl (asZ (.bool ((at' f.Nodes i).Kind == 0)) rfl (nZ ?_)))))
    refine Vc.cond' rfl (fun hb5 => ?_) (fun hb5 => ?_)
    · replace h := h.1 hb5
      obtain ⟨J, h, hJ⟩ := h
      refine Vc.join' (σ := (Bool)) (fun y => J y) (fun y => envOf [(64, .bool y)]) (fun y => stL S rg []) (fun x3 h => ?_) ?_
      · replace h := hJ x3 h
        show Vc _ _ _ _ (envOf [(64, .bool x3)]) (stL S rg [])
        refine Vc.cond' rfl (fun hb6 => ?_) (fun hb6 => ?_)
        · replace h := h.1 hb6
          refine qZ (rZ (wZ rg (o_iface (by rw [td107]; trivial) (v := .int .i64 3) rfl (asZ (.iface 107 (.int .i64 3)) rfl (nZ ?_)))))
          refine Vc.ret' ?_
          refine res_tmp (v := .iface 107 (.int .i64 3)) rfl (res_nil ?_)
          show Gives _ (.iface 107 (.int .i64 3)) _
          exact gives_out hrg (VW.refl _) (hQ _ h)
        replace h := h.2 hb6
        refine Vc.skip' ?_
        refine qZ (rZ (asZ .niface rfl (nZ ?_)))
        refine Vc.ret' ?_
        refine res_tmp (v := .niface) rfl (res_nil ?_)
        show Gives _ .niface _
        exact gives_out hrg (VW.refl _) (hQ _ h)
      refine rZ ?_
      refine wZ rg (o_faP td78 rfl rfl (by rw [sz3]; decide) rfl (wZ rg (o_loadB1 (atL (k := 5) rfl) sz3 ag3 rfl rfl (v := .int .i64 ((at' f.Nodes i).K)) rfl (wZ rg (o_neq rfl rfl (mvZ (.bool ((at' f.Nodes i).K != 0)) rfl ?_))))))
      refine Wl.guard rfl rfl (fun hb7 => ?_) (fun hb7 => ?_)
      · replace h := h.1 hb7
        refine wZ rg (o_faP td78 rfl rfl (by rw [sz3]; decide) rfl ?_)
        refine Wl.guardT rfl rfl hb7 ?_
        refine wZ rg (o_loadB1 (atL (k := 5) rfl) sz3 ag3 rfl rfl (v := .int .i64 ((at' f.Nodes i).K)) rfl ?_)
        refine Wl.guardT rfl rfl hb7 ?_
        refine wZ rg (o_neq rfl rfl (wZ rg (o_pickT rfl hb7 (v := .bool ((at' f.Nodes i).K != 1)) rfl (nZ ?_))))
        exact ⟨((at' f.Nodes i).K != 1), (canon (fc vr (fn)) (sn)), h⟩
      replace h := h.2 hb7
      refine Wl.guardF rfl rfl hb7 rfl ?_
      refine Wl.guardF rfl rfl hb7 rfl ?_
      refine wZ rg (o_pickF rfl hb7 (v := .bool false) rfl (nZ ?_))
      exact ⟨false, (canon (fc vr (fn)) (sn)), h⟩
    replace h := h.2 hb5
    refine qZ (rZ (wZ rg (o_eql rfl rfl (asZ (.bool ((at' f.Nodes i).Kind == 4)) rfl (nZ ?_)))))
    refine Vc.cond' rfl (fun hb8 => ?_) (fun hb8 => ?_)
    · replace h := h.1 hb8
      obtain ⟨J, h, hJ⟩ := h
      refine Vc.join' (σ := (Bool)) (fun y => J y) (fun y => envOf [(78, .bool y)]) (fun y => stL S rg []) (fun x4 h => ?_) ?_
      · replace h := hJ x4 h
        show Vc _ _ _ _ (envOf [(78, .bool x4)]) (stL S rg [])
        refine Vc.cond' rfl (fun hb9 => ?_) (fun hb9 => ?_)
        · replace h := h.1 hb9
          refine qZ (rZ (wZ rg (o_iface (by rw [td107]; trivial) (v := .int .i64 3) rfl (asZ (.iface 107 (.int .i64 3)) rfl (nZ ?_)))))
          refine Vc.ret' ?_
          refine res_tmp (v := .iface 107 (.int .i64 3)) rfl (res_nil ?_)
          show Gives _ (.iface 107 (.int .i64 3)) _
          exact gives_out hrg (VW.refl _) (hQ _ h)
        replace h := h.2 hb9
        refine Vc.skip' ?_
        refine qZ (rZ (asZ .niface rfl (nZ ?_)))
        refine Vc.ret' ?_
        refine res_tmp (v := .niface) rfl (res_nil ?_)
        show Gives _ .niface _
        exact gives_out hrg (VW.refl _) (hQ _ h)
      refine rZ ?_
      refine wZ rg (o_faP td78 rfl rfl (by rw [sz3]; decide) rfl (wZ rg (o_loadB1 (atL (k := 5) rfl) sz3 ag3 rfl rfl (v := .int .i64 ((at' f.Nodes i).K)) rfl (wZ rg (o_lss rfl rfl (mvZ (.bool (decide ((at' f.Nodes i).K < 1))) rfl ?_))))))
      refine Wl.guard rfl rfl (fun hb10 => ?_) (fun hb10 => ?_)
      · replace h := h.2 hb10
        refine wZ rg (o_faP td78 rfl rfl (by rw [sz3]; decide) rfl ?_)
        refine Wl.guardT rfl rfl hb10 ?_
        refine wZ rg (o_loadB1 (atL (k := 5) rfl) sz3 ag3 rfl rfl (v := .int .i64 ((at' f.Nodes i).K)) rfl ?_)
        refine Wl.guardT rfl rfl hb10 ?_
        refine wZ rg (o_faP td78 rfl rfl (by rw [sz76]; decide) rfl ?_)
        refine Wl.guardT rfl rfl hb10 ?_
        refine wZ rg (o_loadB1 (atL (k := 5) rfl) sz76 ag76 rfl rfl (v := eL (AV.int .i64) ((at' f.Nodes i).Args)) rfl ?_)
        refine Wl.guardT rfl rfl hb10 ?_
        refine wZ rg (o_len td76 rfl ?_)
        refine Wl.guardT rfl rfl hb10 ?_
        refine wZ rg (o_gtr rfl rfl (wZ rg (o_pickF rfl hb10 (v := .bool (decide ((((at' f.Nodes i).Args).length : Int) < (at' f.Nodes i).K))) rfl (nZ ?_))))
        exact ⟨(decide ((((at' f.Nodes i).Args).length : Int) < (at' f.Nodes i).K)), (canon (fc vr (fn)) (sn)), h⟩
      replace h := h.1 hb10
      refine Wl.guardF rfl rfl hb10 rfl ?_
      refine Wl.guardF rfl rfl hb10 rfl ?_
      refine Wl.guardF rfl rfl hb10 rfl ?_
      refine Wl.guardF rfl rfl hb10 rfl ?_
      refine Wl.guardF rfl rfl hb10 rfl ?_
      refine wZ rg (o_pickT rfl hb10 (v := .bool true) rfl (nZ ?_))
      exact ⟨true, (canon (fc vr (fn)) (sn)), h⟩
    replace h := h.2 hb8
    refine qZ (rZ (wZ rg (o_faP td78 rfl rfl (by rw [sz3]; decide) rfl (wZ rg (o_loadB1 (atL (k := 5) rfl) sz3 ag3 rfl rfl (v := .int .i64 ((at' f.Nodes i).K)) rfl (wZ rg (o_neq rfl rfl (nZ ?_))))))))
    refine Vc.cond' rfl (fun hb11 => ?_) (fun hb11 => ?_)
    · replace h := h.1 hb11
      refine qZ (rZ (wZ rg (o_iface (by rw [td107]; trivial) (v := .int .i64 2) rfl (asZ (.iface 107 (.int .i64 2)) rfl (nZ ?_)))))
      refine Vc.ret' ?_
      refine res_tmp (v := .iface 107 (.int .i64 2)) rfl (res_nil ?_)
      show Gives _ (.iface 107 (.int .i64 2)) _
      exact gives_out hrg (VW.refl _) (hQ _ h)
    replace h := h.2 hb11
    refine Vc.skip' ?_
    refine qZ (rZ (asZ .niface rfl (nZ ?_)))
    refine Vc.ret' ?_
    refine res_tmp (v := .niface) rfl (res_nil ?_)
    show Gives _ .niface _
    exact gives_out hrg (VW.refl _) (hQ _ h)
  refine rZ ?_
  refine wZ rg (o_faP td78 rfl rfl (by rw [sz3]; decide) rfl (wZ rg (o_loadB1 (atL (k := 5) rfl) sz3 ag3 rfl rfl (v := .int .i64 ((at' f.Nodes i).Kind)) rfl (wZ rg (o_lss rfl rfl (mvZ (.bool (decide ((at' f.Nodes i).Kind < 0))) rfl ?_))))))
  refine Wl.guard rfl rfl (fun hb12 => ?_) (fun hb12 => ?_)
  · replace h := h.2 hb12
    refine wZ rg (o_faP td78 rfl rfl (by rw [sz3]; decide) rfl ?_)
    refine Wl.guardT rfl rfl hb12 ?_
    refine wZ rg (o_loadB1 (atL (k := 5) rfl) sz3 ag3 rfl rfl (v := .int .i64 ((at' f.Nodes i).Kind)) rfl ?_)
    refine Wl.guardT rfl rfl hb12 ?_
    refine wZ rg (o_gtr rfl rfl (wZ rg (o_pickF rfl hb12 (v := .bool (decide (5 < (at' f.Nodes i).Kind))) rfl (nZ ?_))))
    exact ⟨((decide (5 < (at' f.Nodes i).Kind)), (g1, g2)), (canon (fc vr (fc vr (fc vr (fc vr (fn))))) (sc rfl (sc rfl (sn)))), h⟩
  replace h := h.1 hb12
  refine Wl.guardF rfl rfl hb12 rfl ?_
  refine Wl.guardF rfl rfl hb12 rfl ?_
  refine wZ rg (o_pickT rfl hb12 (v := .bool true) rfl (nZ ?_))
  exact ⟨(true, (g1, g2)), (canon (fc vr (fc vr (fc vr (fc vr (fn))))) (sc rfl (sc rfl (sn)))), h⟩
theorem formula_Valid_ctr {f : GFormula} {arg : Int} {Q : Bool → Prop} {S : St} {R : AV → St → Prop} (h : formula_Valid_W f arg Q) (hQ : ∀ r1, Q r1 → R (AV.bool r1) S) :
    Ctr Try.prog 114 [eFormula f, AV.int .i64 arg] S R := by
  unfold formula_Valid_W at h
  refine enterT Try.func114 rfl Try.ntmps114 Try.results114 (by kernel_rfl) (fun rg hrg => ?_)
  refine qZ (rZ (wZ rg (o_box (v := eFormula f) rfl rfl (kk := 3) rfl (by decide) (fun g1 => (asZ (.bool false) rfl (nZ (qZ (rZ (wZ rg (o_faP td70 rfl rfl (by rw [sz3]; decide) rfl (wZ rg (o_loadB1 (atL (k := 2) rfl) sz3 ag3 rfl rfl (v := .int .i64 f.Vars) rfl (wZ rg (o_geq rfl rfl (mvZ (.bool (decide (0 ≤ f.Vars))) rfl ?_)))))))))))))))
  refine Wl.guard rfl rfl (fun hb => ?_) (fun hb => ?_)
  · replace h := h.1 hb
    refine mvZ (.int .i64 arg) rfl ?_
    refine Wl.guardT rfl rfl hb ?_
    refine wZ rg (o_geq rfl rfl (wZ rg (o_pickT rfl hb (v := .bool (decide (0 ≤ arg))) rfl (mvZ (.bool (decide (0 ≤ arg))) rfl ?_))))
    refine Wl.guard rfl rfl (fun hb1 => ?_) (fun hb1 => ?_)
    · replace h := h.1 hb1
      refine mvZ (.int .i64 arg) rfl ?_
      refine Wl.guardT rfl rfl hb1 ?_
      refine wZ rg (o_faP td70 rfl rfl (by rw [sz3]; decide) rfl ?_)
      refine Wl.guardT rfl rfl hb1 ?_
      refine wZ rg (o_loadB1 (atL (k := 2) rfl) sz3 ag3 rfl rfl (v := .int .i64 f.Vars) rfl ?_)
      refine Wl.guardT rfl rfl hb1 ?_
      refine wZ rg (o_lss rfl rfl ?_)
      refine Wl.guardT rfl rfl hb1 ?_
      refine mvZ (.bool (decide (arg < f.Vars))) rfl ?_
      refine Wl.guard rfl rfl (fun hb2 => ?_) (fun hb2 => ?_)
      · replace h := h.2 hb2
        refine mvZ (.int .i64 arg) rfl ?_
        refine Wl.guardT rfl rfl hb2 ?_
        refine wZ rg (o_faP td70 rfl rfl (by rw [sz3]; decide) rfl ?_)
        refine Wl.guardT rfl rfl hb2 ?_
        refine wZ rg (o_loadB1 (atL (k := 2) rfl) sz3 ag3 rfl rfl (v := .int .i64 f.Vars) rfl ?_)
        refine Wl.guardT rfl rfl hb2 ?_
        refine wZ rg (o_subG rfl rfl h.1 ?_)
        replace h := h.2
        refine Wl.guardT rfl rfl hb2 ?_
        refine wZ rg (o_faP td70 rfl rfl (by rw [sz68]; decide) rfl ?_)
        refine Wl.guardT rfl rfl hb2 ?_
        refine wZ rg (o_loadB1 (atL (k := 2) rfl) sz68 ag68 rfl rfl (v := eL eNode f.Nodes) rfl ?_)
        refine Wl.guardT rfl rfl hb2 ?_
        refine wZ rg (o_len td68 rfl ?_)
        refine Wl.guardT rfl rfl hb2 ?_
        refine wZ rg (o_lss rfl rfl ?_)
        refine Wl.guardT rfl rfl hb1 ?_
        refine wZ rg (o_pickF rfl hb2 (v := .bool (decide ((arg - f.Vars) < (f.Nodes.length : Int)))) rfl (wZ rg (o_pickT rfl hb1 (v := .bool (decide ((arg - f.Vars) < (f.Nodes.length : Int)))) rfl (asZ (.bool (decide ((arg - f.Vars) < (f.Nodes.length : Int)))) rfl (nZ ?_)))))
        refine Vc.ret' ?_
        refine res_tmp (v := .bool (decide ((arg - f.Vars) < (f.Nodes.length : Int)))) rfl (res_nil ?_)
        show Gives _ (.bool (decide ((arg - f.Vars) < (f.Nodes.length : Int)))) _
        exact gives_out hrg (VW.refl _) (hQ _ h)
      replace h := h.1 hb2
      refine Wl.guardF rfl rfl hb2 rfl ?_
      refine Wl.guardF rfl rfl hb2 rfl ?_
      refine Wl.guardF rfl rfl hb2 rfl ?_
      refine Wl.guardF rfl rfl hb2 rfl ?_
      refine Wl.guardF rfl rfl hb2 rfl ?_
      refine Wl.guardF rfl rfl hb2 rfl ?_
      refine Wl.guardF rfl rfl hb2 rfl ?_
      refine Wl.guardT rfl rfl hb1 ?_
      refine wZ rg (o_pickT rfl hb2 (v := .bool true) rfl (wZ rg (o_pickT rfl hb1 (v := .bool true) rfl (asZ (.bool true) rfl (nZ ?_)))))
      refine Vc.ret' ?_
      refine res_tmp (v := .bool true) rfl (res_nil ?_)
      show Gives _ (.bool true) _
      exact gives_out hrg (VW.refl _) (hQ _ h)
    replace h := h.2 hb1
    refine Wl.guardF rfl rfl hb1 rfl ?_
    refine Wl.guardF rfl rfl hb1 rfl ?_
    refine Wl.guardF rfl rfl hb1 rfl ?_
    refine Wl.guardF rfl rfl hb1 rfl ?_
    refine Wl.guardU rfl rfl ?_
    refine Wl.guardU rfl rfl ?_
    refine Wl.guardU rfl rfl ?_
    refine Wl.guardU rfl rfl ?_
    refine Wl.guardU rfl rfl ?_
    refine Wl.guardU rfl rfl ?_
    refine Wl.guardU rfl rfl ?_
    refine Wl.guardU rfl rfl ?_
    refine Wl.guardF rfl rfl hb1 rfl ?_
    refine wZ rg (o_pickF rfl hb1 (v := .bool false) rfl (asZ (.bool false) rfl (nZ ?_)))
    refine Vc.ret' ?_
    refine res_tmp (v := .bool false) rfl (res_nil ?_)
    show Gives _ (.bool false) _
    exact gives_out hrg (VW.refl _) (hQ _ h)
  replace h := h.2 hb
  refine Wl.guardF rfl rfl hb rfl ?_
  refine wZ rg (o_pickF rfl hb (v := .bool false) rfl (mvZ (.bool false) rfl ?_))
  refine Wl.guardF rfl rfl rfl rfl ?_
  refine Wl.guardF rfl rfl rfl rfl ?_
  refine Wl.guardF rfl rfl rfl rfl ?_
  refine Wl.guardF rfl rfl rfl rfl ?_
  refine Wl.guardF rfl rfl rfl rfl ?_
  refine Wl.guardU rfl rfl ?_
  refine Wl.guardU rfl rfl ?_
  refine Wl.guardU rfl rfl ?_
  refine Wl.guardU rfl rfl ?_
  refine Wl.guardU rfl rfl ?_
  refine Wl.guardU rfl rfl ?_
  refine Wl.guardU rfl rfl ?_
  refine Wl.guardU rfl rfl ?_
  refine Wl.guardF rfl rfl rfl rfl ?_
  refine wZ rg (o_pickF rfl rfl (v := .bool false) rfl (asZ (.bool false) rfl (nZ ?_)))
  refine Vc.ret' ?_
  refine res_tmp (v := .bool false) rfl (res_nil ?_)
  show Gives _ (.bool false) _
  exact gives_out hrg (VW.refl _) (hQ _ h)
theorem formula_Check_ctr {f : GFormula} {Q : Option Int → Prop} {S : St} {R : AV → St → Prop} (h : formula_Check_W f Q) (hQ : ∀ r1, Q r1 → R (eErr 107 r1) S) :
    Ctr Try.prog 48 [eFormula f] S R := by
  unfold formula_Check_W at h
  refine enterT Try.func48 rfl Try.ntmps48 Try.results48 (by kernel_rfl) (fun rg hrg => ?_)
  refine qZ (rZ (wZ rg (o_box (v := eFormula f) rfl rfl (kk := 3) rfl (by decide) (fun g1 => (asZ .niface rfl (nZ (qZ ?_)))))))
  obtain ⟨J, h, hJ⟩ := h
  refine Vc.join' (σ := ((Bool) × (Nat))) (fun y => J y.1) (fun y => envOf [(1, .ptr rg 1 y.2 0 0), (12, .bool y.1)]) (fun y => stL S rg [(1, .arr 3 [eFormula f], y.2)]) (fun y h => ?_) ?_
  · obtain ⟨x, g2⟩ := y
    replace h := hJ x h
    show Vc _ _ _ _ (envOf [(1, .ptr rg 1 g2 0 0), (12, .bool x)]) (stL S rg [(1, .arr 3 [eFormula f], g2)])
    refine Vc.cond' rfl (fun hb => ?_) (fun hb => ?_)
    · replace h := h.1 hb
      refine qZ (rZ (wZ rg (o_iface (by rw [td107]; trivial) (v := .int .i64 3) rfl (asZ (.iface 107 (.int .i64 3)) rfl (nZ ?_)))))
      refine Vc.ret' ?_
      refine res_tmp (v := .iface 107 (.int .i64 3)) rfl (res_nil ?_)
      show Gives _ (.iface 107 (.int .i64 3)) _
      exact gives_out hrg (VW.refl _) (hQ _ h)
    replace h := h.2 hb
    refine Vc.skip' ?_
    refine qZ (qZ (rZ (wZ rg (o_faP td70 rfl rfl (by rw [sz68]; decide) rfl (wZ rg (o_loadB1 (atL (k := 1) rfl) sz68 ag68 rfl rfl (v := eL eNode f.Nodes) rfl (wZ rg (o_len td68 rfl (wZ rg (o_gtr rfl rfl (nZ ?_)))))))))))
    refine Vc.cond' rfl (fun hb1 => ?_) (fun hb1 => ?_)
    · replace h := h.1 hb1
      refine qZ (rZ (wZ rg (o_iface (by rw [td107]; trivial) (v := .int .i64 4) rfl (asZ (.iface 107 (.int .i64 4)) rfl (nZ ?_)))))
      refine Vc.ret' ?_
      refine res_tmp (v := .iface 107 (.int .i64 4)) rfl (res_nil ?_)
      show Gives _ (.iface 107 (.int .i64 4)) _
      exact gives_out hrg (VW.refl _) (hQ _ h)
    replace h := h.2 hb1
    refine Vc.skip' ?_
    refine qZ (qZ (rZ (wZ rg (o_faP td70 rfl rfl (by rw [sz68]; decide) rfl (wZ rg (o_loadB1 (atL (k := 1) rfl) sz68 ag68 rfl rfl (v := eL eNode f.Nodes) rfl (wZ rg (o_len td68 rfl (mvZ (.int .i64 0) rfl (nZ ?_))))))))))
    refine Vc.blk ?_
    obtain ⟨I, μ, h0, hI⟩ := h
    refine Vc.loop' (σ := (Int)) (fun y => I y) (fun y => μ y) (fun y => envOf [(1, .ptr rg 1 g2 0 0), (21, .int .i64 (f.Nodes.length : Int)), (22, .int .i64 y)]) (fun y => stL S rg [(1, .arr 3 [eFormula f], g2)]) 0 (canon (fc vr (fc vr (fc vr (fn)))) (sc rfl (sn))) h0 (fun x1 h => ?_)
    replace h := hI x1 h
    show Vc _ _ _ _ (envOf [(1, .ptr rg 1 g2 0 0), (21, .int .i64 (f.Nodes.length : Int)), (22, .int .i64 x1)]) (stL S rg [(1, .arr 3 [eFormula f], g2)])
    refine qZ (rZ (wZ rg (o_lss rfl rfl (nZ (qZ ?_)))))
    refine Vc.cond' rfl (fun hb2 => ?_) (fun hb2 => ?_)
    · replace h := h.1 hb2
      refine Vc.skip' ?_
      refine qZ ?_
      refine Vc.blk ?_
      refine qZ (rZ (mvZ (.int .i64 x1) rfl (asZ (.int .i64 x1) rfl (nZ (qZ (rZ (wZ rg (o_loadBA (atL (k := 1) rfl) sz70 (by decide) ag70 rfl rfl (v := eFormula f) rfl (mvZ (.int .i64 x1) rfl (wZ rg (o_call (us := [eFormula f, AV.int .i64 x1]) rfl (vl' vr (vl' vr (vn))) (formula_checkNode_ctr h fun e h => (asZ (eErr 107 e) rfl (nZ (qZ (rZ (mvZ (eErr 107 e) rfl ?_)))))))))))))))))
      refine wZ rg (o_isnon td31 (E := 107) rfl rfl rfl (nZ ?_))
      refine Vc.cond' rfl (fun hb3 => ?_) (fun hb3 => ?_)
      · replace h := h.1 hb3
        refine qZ (rZ (mvZ (eErr 107 e) rfl (asZ (eErr 107 e) rfl (nZ ?_))))
        refine Vc.ret' ?_
        refine res_tmp (v := eErr 107 e) rfl (res_nil ?_)
        show Gives _ (eErr 107 e) _
        exact gives_out hrg (VW.refl _) (hQ _ h)
      replace h := h.2 hb3
      refine Vc.skip' ?_
      refine rZ ?_
      refine wZ rg (o_addG rfl rfl h.1 ?_)
      replace h := h.2
      refine mvZ (.int .i64 (x1 + 1)) rfl (nZ ?_)
      exact ⟨(x1 + 1), (canon (fc vr (fc vr (fc vr (fn)))) (sc rfl (sn))), h⟩
    replace h := h.2 hb2
    refine Vc.exit' (exB_self ?_)
    refine qZ (qZ (rZ (wZ rg (o_loadBA (atL (k := 1) rfl) sz70 (by decide) ag70 rfl rfl (v := eFormula f) rfl (wZ rg (o_faP td70 rfl rfl (by rw [sz3]; decide) rfl (wZ rg (o_loadB1 (atL (k := 1) rfl) sz3 ag3 rfl rfl (v := .int .i64 f.Top) rfl (wZ rg (o_call (us := [eFormula f, AV.int .i64 f.Top]) rfl (vl' vr (vl' vr (vn))) (formula_Valid_ctr h fun r h => (wZ rg (o_not rfl (nZ ?_))))))))))))))
    refine Vc.cond' rfl (fun hb4 => ?_) (fun hb4 => ?_)
    · replace h := h.1 hb4
      refine qZ (rZ (wZ rg (o_iface (by rw [td107]; trivial) (v := .int .i64 10) rfl (asZ (.iface 107 (.int .i64 10)) rfl (nZ ?_)))))
      refine Vc.ret' ?_
      refine res_tmp (v := .iface 107 (.int .i64 10)) rfl (res_nil ?_)
      show Gives _ (.iface 107 (.int .i64 10)) _
      exact gives_out hrg (VW.refl _) (hQ _ h)
    replace h := h.2 hb4
    refine Vc.skip' ?_
    refine qZ (rZ (asZ .niface rfl (nZ ?_)))
    refine Vc.ret' ?_
    refine res_tmp (v := .niface) rfl (res_nil ?_)
    show Gives _ .niface _
    exact gives_out hrg (VW.refl _) (hQ _ h)
  refine rZ ?_
  refine wZ rg (o_faP td70 rfl rfl (by rw [sz3]; decide) rfl (wZ rg (o_loadB1 (atL (k := 1) rfl) sz3 ag3 rfl rfl (v := .int .i64 f.Vars) rfl (wZ rg (o_lss rfl rfl (mvZ (.bool (decide (f.Vars < 0))) rfl ?_))))))
  refine Wl.guard rfl rfl (fun hb5 => ?_) (fun hb5 => ?_)
  · replace h := h.2 hb5
    refine wZ rg (o_faP td70 rfl rfl (by rw [sz3]; decide) rfl ?_)
    refine Wl.guardT rfl rfl hb5 ?_
    refine wZ rg (o_loadB1 (atL (k := 1) rfl) sz3 ag3 rfl rfl (v := .int .i64 f.Vars) rfl ?_)
    refine Wl.guardT rfl rfl hb5 ?_
    refine wZ rg (o_gtr rfl rfl (wZ rg (o_pickF rfl hb5 (v := .bool (decide (24 < f.Vars))) rfl (nZ ?_))))
    exact ⟨((decide (24 < f.Vars)), g1), (canon (fc vr (fc vr (fn))) (sc rfl (sn))), h⟩
  replace h := h.1 hb5
  refine Wl.guardF rfl rfl hb5 rfl ?_
  refine Wl.guardF rfl rfl hb5 rfl ?_
  refine wZ rg (o_pickT rfl hb5 (v := .bool true) rfl (nZ ?_))
  exact ⟨(true, g1), (canon (fc vr (fc vr (fn))) (sc rfl (sn))), h⟩
theorem formula_check_ctr {f : GFormula} {failed : Int} {Q : Option Int → Prop} {S : St} {R : AV → St → Prop} (h : formula_check_W f failed Q) (hQ : ∀ r1, Q r1 → R (eErr 107 r1) S) :
    Ctr Try.prog 115 [eFormula f, AV.int .i64 failed] S R := by
  unfold formula_check_W at h
  refine enterT Try.func115 rfl Try.ntmps115 Try.results115 (by kernel_rfl) (fun rg hrg => ?_)
  refine qZ (rZ (wZ rg (o_box (v := eFormula f) rfl rfl (kk := 3) rfl (by decide) (fun g1 => (asZ .niface rfl (nZ (qZ (qZ (rZ (wZ rg (o_loadBA (atL (k := 2) rfl) sz70 (by decide) ag70 rfl rfl (v := eFormula f) rfl (wZ rg (o_call (us := [eFormula f]) rfl (vl' vr (vn)) (formula_Check_ctr h fun e h => (asZ (eErr 107 e) rfl (nZ (qZ (rZ (mvZ (eErr 107 e) rfl ?_)))))))))))))))))))
  refine wZ rg (o_isnon td31 (E := 107) rfl rfl rfl (nZ ?_))
  refine Vc.cond' rfl (fun hb => ?_) (fun hb => ?_)
  · replace h := h.1 hb
    refine qZ (rZ (mvZ (eErr 107 e) rfl (asZ (eErr 107 e) rfl (nZ ?_))))
    refine Vc.ret' ?_
    refine res_tmp (v := eErr 107 e) rfl (res_nil ?_)
    show Gives _ (eErr 107 e) _
    exact gives_out hrg (VW.refl _) (hQ _ h)
  replace h := h.2 hb
  refine Vc.skip' ?_
  refine qZ ?_
  obtain ⟨J, h, hJ⟩ := h
  refine Vc.join' (σ := (Bool)) (fun y => J y) (fun y => envOf [(19, .bool y)]) (fun y => stL S rg []) (fun x h => ?_) ?_
  · replace h := hJ x h
    show Vc _ _ _ _ (envOf [(19, .bool x)]) (stL S rg [])
    refine Vc.cond' rfl (fun hb1 => ?_) (fun hb1 => ?_)
    · replace h := h.1 hb1
      refine qZ (rZ (wZ rg (o_iface (by rw [td107]; trivial) (v := .int .i64 3) rfl (asZ (.iface 107 (.int .i64 3)) rfl (nZ ?_)))))
      refine Vc.ret' ?_
      refine res_tmp (v := .iface 107 (.int .i64 3)) rfl (res_nil ?_)
      show Gives _ (.iface 107 (.int .i64 3)) _
      exact gives_out hrg (VW.refl _) (hQ _ h)
    replace h := h.2 hb1
    refine Vc.skip' ?_
    refine qZ (rZ (asZ .niface rfl (nZ ?_)))
    refine Vc.ret' ?_
    refine res_tmp (v := .niface) rfl (res_nil ?_)
    show Gives _ .niface _
    exact gives_out hrg (VW.refl _) (hQ _ h)
  refine rZ ?_
  refine mvZ (.int .i64 failed) rfl (wZ rg (o_lss rfl rfl (mvZ (.bool (decide (failed < 0))) rfl ?_)))
  refine Wl.guard rfl rfl (fun hb2 => ?_) (fun hb2 => ?_)
  · replace h := h.2 hb2
    refine mvZ (.int .i64 failed) rfl ?_
    refine Wl.guardT rfl rfl hb2 ?_
    refine wZ rg (o_faP td70 rfl rfl (by rw [sz3]; decide) rfl ?_)
    refine Wl.guardT rfl rfl hb2 ?_
    refine wZ rg (o_loadB1 (atL (k := 2) rfl) sz3 ag3 rfl rfl (v := .int .i64 f.Vars) rfl ?_)
    refine Wl.guardT rfl rfl hb2 ?_
    refine wZ rg (o_shlG rfl rfl h.1 ?_)
    replace h := h.2
    refine Wl.guardT rfl rfl hb2 ?_
    refine wZ rg (o_geq rfl rfl (wZ rg (o_pickF rfl hb2 (v := .bool (decide ((1 * 2 ^ (Int.toNat f.Vars)) ≤ failed))) rfl (nZ ?_))))
    exact ⟨(decide ((1 * 2 ^ (Int.toNat f.Vars)) ≤ failed)), (canon (fc vr (fn)) (sn)), h⟩
  replace h := h.1 hb2
  refine Wl.guardF rfl rfl hb2 rfl ?_
  refine Wl.guardF rfl rfl hb2 rfl ?_
  refine Wl.guardF rfl rfl hb2 rfl ?_
  refine Wl.guardF rfl rfl hb2 rfl ?_
  refine wZ rg (o_pickT rfl hb2 (v := .bool true) rfl (nZ ?_))
  exact ⟨true, (canon (fc vr (fn)) (sn)), h⟩
theorem formula_values_ctr {f : GFormula} {failed : Int} {Q : List Bool → Prop} {S : St} {R : AV → St → Prop} (h : formula_values_W f failed Q) (hQ : ∀ r1, Q r1 → R (eL AV.bool r1) S) :
    Ctr Try.prog 116 [eFormula f, AV.int .i64 failed] S R := by
  unfold formula_values_W at h
  refine enterT Try.func116 rfl Try.ntmps116 Try.results116 (by kernel_rfl) (fun rg hrg => ?_)
  refine qZ (rZ (wZ rg (o_box (v := eFormula f) rfl rfl (kk := 3) rfl (by decide) (fun g1 => (asZ .nil rfl (nZ (qZ (rZ (wZ rg (o_faP td70 rfl rfl (by rw [sz3]; decide) rfl (wZ rg (o_loadB1 (atL (k := 2) rfl) sz3 ag3 rfl rfl (v := .int .i64 f.Vars) rfl (wZ rg (o_faP td70 rfl rfl (by rw [sz3]; decide) rfl (wZ rg (o_loadB1 (atL (k := 2) rfl) sz3 ag3 rfl rfl (v := .int .i64 f.Vars) rfl ?_))))))))))))))))
  refine wZ rg (o_faP td70 rfl rfl (by rw [sz68]; decide) rfl (wZ rg (o_loadB1 (atL (k := 2) rfl) sz68 ag68 rfl rfl (v := eL eNode f.Nodes) rfl (wZ rg (o_len td68 rfl (wZ rg (o_addG rfl rfl h.1 ?_)))))))
  replace h := h.2
  refine wZ rg (o_make td63 bts4 ok4 (enc := AV.bool) (z' := false) zav4 (kk := 1) rfl rfl rfl h.1 (fun g2 => ?_))
  replace h := h.2
  refine asZ (.sl 1 rg 21 g2 0 (Int.toNat f.Vars)) rfl (nZ (qZ (qZ (rZ (mvZ (.sl 1 rg 21 g2 0 (Int.toNat f.Vars)) rfl (wZ rg (o_lenR td63 rfl (mvZ (.int .i64 0) rfl (nZ ?_)))))))))
  refine Vc.blk ?_
  obtain ⟨I, μ, h0, hI⟩ := h
  refine Vc.loop' (σ := (Int × (List Bool))) (fun y => I y) (fun y => μ y) (fun y => envOf [(1, .int .i64 failed), (2, .ptr rg 2 g1 0 0), (5, .sl 1 rg 21 g2 0 y.2.length), (23, .int .i64 ((Int.toNat f.Vars) : Int)), (24, .int .i64 y.1)]) (fun y => stL S rg [(2, .arr 3 [eFormula f], g1), (21, .arr 1 (List.map AV.bool y.2), g2)]) (0, (rep' f.Vars false)) (canon (fc vr (fc vr (fc (VW.slen (by first | rfl | omega | (simp only [go_sem] <;> omega))) (fc vr (fc vr (fn)))))) (sc rfl (sc rfl (sn)))) h0 (fun y h => ?_)
  obtain ⟨x, v⟩ := y
  replace h := hI (x, v) h
  show Vc _ _ _ _ (envOf [(1, .int .i64 failed), (2, .ptr rg 2 g1 0 0), (5, .sl 1 rg 21 g2 0 v.length), (23, .int .i64 ((Int.toNat f.Vars) : Int)), (24, .int .i64 x)]) (stL S rg [(2, .arr 3 [eFormula f], g1), (21, .arr 1 (List.map AV.bool v), g2)])
  refine qZ (rZ (wZ rg (o_lss rfl rfl (nZ (qZ ?_)))))
  refine Vc.cond' rfl (fun hb => ?_) (fun hb => ?_)
  · replace h := h.1 hb
    refine Vc.skip' ?_
    refine qZ ?_
    refine Vc.blk ?_
    refine qZ (rZ (mvZ (.int .i64 x) rfl (asZ (.int .i64 x) rfl (nZ (rZ (mvZ (.sl 1 rg 21 g2 0 v.length) rfl (mvZ (.int .i64 x) rfl (mvZ (.int .i64 failed) rfl (mvZ (.int .i64 x) rfl (wZ rg (o_shr rfl rfl h.1 ?_)))))))))))
    replace h := h.2
    refine wZ rg (o_and rfl rfl (wZ rg (o_eql rfl rfl (wZ rg (o_idxR0 td63 sz4 (by decide) rfl rfl h.1 ?_)))))
    have hi := h.1
    replace h := h.2
    refine wZ rg (o_storeR1 (atL (k := 21) rfl) sz4 (by decide) (x' := ((bits .and .i64 (failed / 2 ^ (Int.toNat x)) 1) == 1)) (fun _ => rfl) rfl rfl (lt_of hi (by first | rfl | omega | (simp only [go_sem] <;> omega))) rfl rfl setL (nZ (rZ (wZ rg (o_addG rfl rfl h.1 ?_)))))
    replace h := h.2
    refine mvZ (.int .i64 (x + 1)) rfl (nZ ?_)
    exact ⟨((x + 1), (set' v x ((bits .and .i64 (failed / 2 ^ (Int.toNat x)) 1) == 1))), (canon (fc vr (fc vr (fc (VW.slen (by first | rfl | omega | (simp only [go_sem] <;> omega))) (fc vr (fc vr (fn)))))) (sc rfl (sc rfl (sn)))), h⟩
  replace h := h.2 hb
  refine Vc.exit' (exB_self ?_)
  refine qZ (qZ (rZ (wZ rg (o_faP td70 rfl rfl (by rw [sz68]; decide) rfl (wZ rg (o_loadB1 (atL (k := 2) rfl) sz68 ag68 rfl rfl (v := eL eNode f.Nodes) rfl (wZ rg (o_len td68 rfl (mvZ (.int .i64 0) rfl (nZ ?_))))))))))
  refine Vc.blk ?_
  obtain ⟨I, μ, h0, hI⟩ := h
  refine Vc.loop' (σ := ((Int × (List Bool)) × (Nat))) (fun y => I y.1) (fun y => μ y.1) (fun y => envOf [(5, .sl 1 rg 21 y.2 0 y.1.2.length), (37, eL eNode f.Nodes), (38, .int .i64 (f.Nodes.length : Int)), (39, .int .i64 y.1.1)]) (fun y => stL S rg [(21, .arr 1 (List.map AV.bool y.1.2), y.2)]) ((0, v), g2) (canon (fc vr (fc vr (fc vr (fc vr (fn))))) (sc rfl (sn))) h0 (fun y h => ?_)
  obtain ⟨⟨x1, v1⟩, g3⟩ := y
  replace h := hI (x1, v1) h
  show Vc _ _ _ _ (envOf [(5, .sl 1 rg 21 g3 0 v1.length), (37, eL eNode f.Nodes), (38, .int .i64 (f.Nodes.length : Int)), (39, .int .i64 x1)]) (stL S rg [(21, .arr 1 (List.map AV.bool v1), g3)])
  refine qZ (rZ (wZ rg (o_lss rfl rfl (nZ (qZ ?_)))))
  refine Vc.cond' rfl (fun hb1 => ?_) (fun hb1 => ?_)
  · replace h := h.1 hb1
    refine Vc.skip' ?_
    refine qZ ?_
    refine Vc.blk ?_
    refine qZ (rZ (wZ rg (o_idxL td68 sz78 (by decide) (fun _ => rfl) rfl rfl h.1 ?_)))
    replace h := h.2
    refine wZ rg (o_loadIA sz78 (by decide) ag78 rfl rfl (v := eNode (at' f.Nodes x1)) rfl (wZ rg (o_alloc zav78 ok78 (kk := 3) rfl (fun g4 => (wZ rg (o_storeB (atL (k := 8) rfl) sz78 (by decide) rfl (w := eNode (at' f.Nodes x1)) rfl rfl rfl (v := eNode (at' f.Nodes x1)) rfl setL (nZ (qZ (rZ (asZ (.int .i64 0) rfl (nZ (qZ (qZ (rZ (wZ rg (o_faP td78 rfl rfl (by rw [sz76]; decide) rfl ?_))))))))))))))))
    refine wZ rg (o_loadB1 (atL (k := 8) rfl) sz76 ag76 rfl rfl (v := eL (AV.int .i64) ((at' f.Nodes x1).Args)) rfl (wZ rg (o_len td76 rfl (mvZ (.int .i64 0) rfl (nZ ?_)))))
    refine Vc.blk ?_
    obtain ⟨I, μ, h0, hI⟩ := h
    refine Vc.loop' (σ := (Int × Int)) (fun y => I y) (fun y => μ y) (fun y => envOf [(5, .sl 1 rg 21 g3 0 v1.length), (8, .ptr rg 8 g4 0 0), (9, .int .i64 y.1), (37, eL eNode f.Nodes), (38, .int .i64 (f.Nodes.length : Int)), (39, .int .i64 x1), (44, eL (AV.int .i64) ((at' f.Nodes x1).Args)), (45, .int .i64 (((at' f.Nodes x1).Args).length : Int)), (46, .int .i64 y.2)]) (fun y => stL S rg [(8, .arr 3 [eNode (at' f.Nodes x1)], g4), (21, .arr 1 (List.map AV.bool v1), g3)]) (0, 0) (canon (fc vr (fc vr (fc vr (fc vr (fc vr (fc vr (fc vr (fc vr (fc vr (fn)))))))))) (sc rfl (sc rfl (sn)))) h0 (fun y h => ?_)
    obtain ⟨n, x2⟩ := y
    replace h := hI (n, x2) h
    show Vc _ _ _ _ (envOf [(5, .sl 1 rg 21 g3 0 v1.length), (8, .ptr rg 8 g4 0 0), (9, .int .i64 n), (37, eL eNode f.Nodes), (38, .int .i64 (f.Nodes.length : Int)), (39, .int .i64 x1), (44, eL (AV.int .i64) ((at' f.Nodes x1).Args)), (45, .int .i64 (((at' f.Nodes x1).Args).length : Int)), (46, .int .i64 x2)]) (stL S rg [(8, .arr 3 [eNode (at' f.Nodes x1)], g4), (21, .arr 1 (List.map AV.bool v1), g3)])
    refine qZ (rZ (wZ rg (o_lss rfl rfl (nZ (qZ ?_)))))
    refine Vc.cond' rfl (fun hb2 => ?_) (fun hb2 => ?_)
    · replace h := h.1 hb2
      refine Vc.skip' ?_
      refine qZ ?_
      refine Vc.blk ?_
      refine qZ (rZ (wZ rg (o_idxL td76 sz3 (by decide) (fun _ => rfl) rfl rfl h.1 ?_)))
      replace h := h.2
      refine wZ rg (o_loadI1 sz3 ag3 rfl rfl (v := .int .i64 (at' ((at' f.Nodes x1).Args) x2)) rfl (asZ (.int .i64 (at' ((at' f.Nodes x1).Args) x2)) rfl (nZ (qZ (rZ (mvZ (.sl 1 rg 21 g3 0 v1.length) rfl (mvZ (.int .i64 (at' ((at' f.Nodes x1).Args) x2)) rfl (wZ rg (o_idxR0 td63 sz4 (by decide) rfl rfl h.1 ?_)))))))))
      have hi1 := h.1
      replace h := h.2
      refine wZ rg (o_loadR1 (atL (k := 21) rfl) sz4 ag4 rfl (lt_of hi1 (by first | rfl | omega | (simp only [go_sem] <;> omega))) rfl (v := .bool (at' v1 (at' ((at' f.Nodes x1).Args) x2))) rfl (nZ ?_))
      refine Vc.cond' rfl (fun hb3 => ?_) (fun hb3 => ?_)
      · replace h := h.1 hb3
        refine rZ ?_
        refine mvZ (.int .i64 n) rfl (wZ rg (o_addG rfl rfl h.1 ?_))
        replace h := h.2
        refine asZ (.int .i64 (n + 1)) rfl (nZ (rZ (wZ rg (o_addG rfl rfl h.1 ?_))))
        replace h := h.2
        refine mvZ (.int .i64 (x2 + 1)) rfl (nZ ?_)
        exact ⟨((n + 1), (x2 + 1)), (canon (fc vr (fc vr (fc vr (fc vr (fc vr (fc vr (fc vr (fc vr (fc vr (fn)))))))))) (sc rfl (sc rfl (sn)))), h⟩
      replace h := h.2 hb3
      refine Vc.skip' ?_
      refine rZ ?_
      refine wZ rg (o_addG rfl rfl h.1 ?_)
      replace h := h.2
      refine mvZ (.int .i64 (x2 + 1)) rfl (nZ ?_)
      exact ⟨(n, (x2 + 1)), (canon (fc vr (fc vr (fc vr (fc vr (fc vr (fc vr (fc vr (fc vr (fc vr (fn)))))))))) (sc rfl (sc rfl (sn)))), h⟩
    replace h := h.2 hb2
    refine Vc.exit' (exB_self ?_)
    refine qZ (rZ (asZ (.bool false) rfl (nZ ?_)))
    obtain ⟨J, h, hJ⟩ := h
    refine Vc.join' (σ := ((Bool) × (Nat))) (fun y => J y.1) (fun y => envOf [(5, .sl 1 rg 21 y.2 0 v1.length), (12, .bool y.1), (37, eL eNode f.Nodes), (38, .int .i64 (f.Nodes.length : Int)), (39, .int .i64 x1)]) (fun y => stL S rg [(21, .arr 1 (List.map AV.bool v1), y.2)]) (fun y h => ?_) ?_
    · obtain ⟨is, g5⟩ := y
      replace h := hJ is h
      show Vc _ _ _ _ (envOf [(5, .sl 1 rg 21 g5 0 v1.length), (12, .bool is), (37, eL eNode f.Nodes), (38, .int .i64 (f.Nodes.length : Int)), (39, .int .i64 x1)]) (stL S rg [(21, .arr 1 (List.map AV.bool v1), g5)])
      refine rZ ?_
      refine mvZ (.sl 1 rg 21 g5 0 v1.length) rfl (mvZ (.bool is) rfl (wZ rg (o_bslice td63 ok4 zav4 (es := [.bool is]) rfl (kk := 1) rfl rfl rfl rfl rfl rfl (fun g6 => ?_))))
      refine wZ rg (o_appR td63 bts4 ok4 zav4 (es := v1) (xs := [is]) (enc := AV.bool) (atL (k := 21) rfl) (by first | rfl | omega | (simp only [go_sem] <;> omega)) (view_rowE (atL (k := 92) rfl) (by first | rfl | omega | (simp only [go_sem] <;> omega))) (kk := 1) rfl rfl (fun _ => rfl) (fun _ => rfl) h.1 rfl (fun _ => setL) (fun g7 => ?_))
      replace h := h.2
      refine asZ (.sl 1 rg 21 g7 0 ((v1 ++ [is]).length)) rfl (nZ (rZ (wZ rg (o_addG rfl rfl h.1 ?_))))
      replace h := h.2
      refine mvZ (.int .i64 (x1 + 1)) rfl (nZ ?_)
      exact ⟨(((x1 + 1), (v1 ++ [is])), g7), (canon (fc vr (fc vr (fc vr (fc vr (fn))))) (sc rfl (sn))), h⟩
    refine qZ (rZ (wZ rg (o_faP td78 rfl rfl (by rw [sz3]; decide) rfl (wZ rg (o_loadB1 (atL (k := 8) rfl) sz3 ag3 rfl rfl (v := .int .i64 ((at' f.Nodes x1).Kind)) rfl (nZ ?_))))))
    refine Vc.blk ?_
    refine qZ (rZ (wZ rg (o_eql rfl rfl (asZ (.bool ((at' f.Nodes x1).Kind == 0)) rfl (nZ ?_)))))
    refine Vc.cond' rfl (fun hb4 => ?_) (fun hb4 => ?_)
    · replace h := h.1 hb4
      refine rZ ?_
      refine wZ rg (o_faP td78 rfl rfl (by rw [sz3]; decide) rfl (wZ rg (o_loadB1 (atL (k := 8) rfl) sz3 ag3 rfl rfl (v := .int .i64 ((at' f.Nodes x1).K)) rfl (wZ rg (o_eql rfl rfl (asZ (.bool ((at' f.Nodes x1).K == 1)) rfl (nZ ?_)))))))
      exact ⟨(((at' f.Nodes x1).K == 1), g3), (canon (fc vr (fc vr (fc vr (fc vr (fc vr (fn)))))) (sc rfl (sn))), h⟩
    replace h := h.2 hb4
    refine qZ (rZ (wZ rg (o_eql rfl rfl (asZ (.bool ((at' f.Nodes x1).Kind == 1)) rfl (nZ ?_)))))
    refine Vc.cond' rfl (fun hb5 => ?_) (fun hb5 => ?_)
    · replace h := h.1 hb5
      refine rZ ?_
      refine mvZ (.int .i64 n) rfl (wZ rg (o_eql rfl rfl (asZ (.bool (n == 0)) rfl (nZ ?_))))
      exact ⟨((n == 0), g3), (canon (fc vr (fc vr (fc vr (fc vr (fc vr (fn)))))) (sc rfl (sn))), h⟩
    replace h := h.2 hb5
    refine qZ (rZ (wZ rg (o_eql rfl rfl (asZ (.bool ((at' f.Nodes x1).Kind == 2)) rfl (nZ ?_)))))
    refine Vc.cond' rfl (fun hb6 => ?_) (fun hb6 => ?_)
    · replace h := h.1 hb6
      refine rZ ?_
      refine mvZ (.int .i64 n) rfl (wZ rg (o_faP td78 rfl rfl (by rw [sz76]; decide) rfl (wZ rg (o_loadB1 (atL (k := 8) rfl) sz76 ag76 rfl rfl (v := eL (AV.int .i64) ((at' f.Nodes x1).Args)) rfl (wZ rg (o_len td76 rfl (wZ rg (o_eql rfl rfl (asZ (.bool (n == (((at' f.Nodes x1).Args).length : Int))) rfl (nZ ?_))))))))))
      exact ⟨((n == (((at' f.Nodes x1).Args).length : Int)), g3), (canon (fc vr (fc vr (fc vr (fc vr (fc vr (fn)))))) (sc rfl (sn))), h⟩
    replace h := h.2 hb6
    refine qZ (rZ (wZ rg (o_eql rfl rfl (asZ (.bool ((at' f.Nodes x1).Kind == 3)) rfl (nZ ?_)))))
    refine Vc.cond' rfl (fun hb7 => ?_) (fun hb7 => ?_)
    · replace h := h.1 hb7
      refine rZ ?_
      refine mvZ (.int .i64 n) rfl (wZ rg (o_gtr rfl rfl (asZ (.bool (decide (0 < n))) rfl (nZ ?_))))
      exact ⟨((decide (0 < n)), g3), (canon (fc vr (fc vr (fc vr (fc vr (fc vr (fn)))))) (sc rfl (sn))), h⟩
    replace h := h.2 hb7
    refine qZ (rZ (wZ rg (o_eql rfl rfl (asZ (.bool ((at' f.Nodes x1).Kind == 4)) rfl (nZ ?_)))))
    refine Vc.cond' rfl (fun hb8 => ?_) (fun hb8 => ?_)
    · replace h := h.1 hb8
      refine rZ ?_
      refine mvZ (.int .i64 n) rfl (wZ rg (o_faP td78 rfl rfl (by rw [sz3]; decide) rfl (wZ rg (o_loadB1 (atL (k := 8) rfl) sz3 ag3 rfl rfl (v := .int .i64 ((at' f.Nodes x1).K)) rfl (wZ rg (o_geq rfl rfl (asZ (.bool (decide ((at' f.Nodes x1).K ≤ n))) rfl (nZ ?_))))))))
      exact ⟨((decide ((at' f.Nodes x1).K ≤ n)), g3), (canon (fc vr (fc vr (fc vr (fc vr (fc vr (fn)))))) (sc rfl (sn))), h⟩
    replace h := h.2 hb8
    refine qZ (rZ (wZ rg (o_eql rfl rfl (asZ (.bool ((at' f.Nodes x1).Kind == 5)) rfl (nZ ?_)))))
    refine Vc.cond' rfl (fun hb9 => ?_) (fun hb9 => ?_)
    · replace h := h.1 hb9
      refine rZ ?_
      refine mvZ (.int .i64 n) rfl (wZ rg (o_rem rfl rfl (by decide) (wZ rg (o_eql rfl rfl (asZ (.bool ((Int.tmod n 2) == 1)) rfl (nZ ?_))))))
      exact ⟨(((Int.tmod n 2) == 1), g3), (canon (fc vr (fc vr (fc vr (fc vr (fc vr (fn)))))) (sc rfl (sn))), h⟩
    replace h := h.2 hb9
    refine Vc.skip' ?_
    exact ⟨(false, g3), (canon (fc vr (fc vr (fc vr (fc vr (fc vr (fn)))))) (sc rfl (sn))), h⟩
  replace h := h.2 hb1
  refine Vc.exit' (exB_self ?_)
  refine qZ (rZ (mvZ (.sl 1 rg 21 g3 0 v1.length) rfl (asZ (.sl 1 rg 21 g3 0 v1.length) rfl (nZ ?_))))
  refine Vc.ret' ?_
  refine res_tmp (v := .sl 1 rg 21 g3 0 v1.length) rfl (res_nil ?_)
  show Gives _ (.sl 1 rg 21 g3 0 v1.length) _
  refine gives_freeze (k := 21) (xs := List.map AV.bool v1) rfl (v' := eL AV.bool v1) (frz_full rfl) ?_
  exact gives_out hrg (VW.refl _) (hQ _ h)
theorem formula_Value_ctr {f : GFormula} {failed : Int} {Q : Bool → Option Int → Prop} {S : St} {R : AV → St → Prop} (h : formula_Value_W f failed Q) (hQ : ∀ r1 r2, Q r1 r2 → R (.tuple [AV.bool r1, eErr 107 r2]) S) :
    Ctr Try.prog 50 [eFormula f, AV.int .i64 failed] S R := by
  unfold formula_Value_W at h
  refine enterT Try.func50 rfl Try.ntmps50 Try.results50 (by kernel_rfl) (fun rg hrg => ?_)
  refine qZ (rZ (wZ rg (o_box (v := eFormula f) rfl rfl (kk := 3) rfl (by decide) (fun g1 => (asZ (.bool false) rfl (asZ .niface rfl (nZ (qZ (qZ (rZ (wZ rg (o_loadBA (atL (k := 2) rfl) sz70 (by decide) ag70 rfl rfl (v := eFormula f) rfl (mvZ (.int .i64 failed) rfl (wZ rg (o_call (us := [eFormula f, AV.int .i64 failed]) rfl (vl' vr (vl' vr (vn))) (formula_check_ctr h fun e h => ?_))))))))))))))))
  refine asZ (eErr 107 e) rfl (nZ (qZ (rZ (mvZ (eErr 107 e) rfl (wZ rg (o_isnon td31 (E := 107) rfl rfl rfl (nZ ?_)))))))
  refine Vc.cond' rfl (fun hb => ?_) (fun hb => ?_)
  · replace h := h.1 hb
    refine qZ (rZ (mvZ (eErr 107 e) rfl (asZ (.bool false) rfl (asZ (eErr 107 e) rfl (nZ ?_)))))
    refine Vc.ret' ?_
    refine res_tmp (v := .bool false) rfl (res_tmp (v := eErr 107 e) rfl (res_nil ?_))
    show Gives _ (.tuple [.bool false, eErr 107 e]) _
    exact gives_out hrg (VW.tupL (vl' vr (vl' vr (vn)))) (hQ _ _ h)
  replace h := h.2 hb
  refine Vc.skip' ?_
  refine qZ ?_
  obtain ⟨r, hc, h⟩ := h
  have hg := h.1
  replace h := h.2
  refine Vc.drawn' mixed rg (usOf [(2, pc (eL AV.bool r))]) (by kernel_rfl) ?_
  refine dL (E := ([(rg, 2)], [])) rfl rfl (by simp) (cfn) (o_loadBA (atL (k := 2) rfl) sz70 (by decide) ag70 rfl rfl (v := eFormula f) rfl (dP rfl rfl (o_move (v := .int .i64 failed) rfl ?_)))
  refine dC (vs := [eFormula f, AV.int .i64 failed]) rfl (vl' vr (vl' vr (vn))) (fun _ => formula_values_ctr hc (fun _ hr => ⟨by rw [hr], rfl⟩)) rfl ?_
  refine dP rfl rfl (o_faP td70 rfl rfl (by rw [sz3]; decide) rfl (dL (E := ([(rg, 2)], [])) rfl rfl (by simp) (cfa (by simp [apartE]) (cfn)) (o_loadB1 (atL (k := 2) rfl) sz3 ag3 rfl rfl (v := .int .i64 f.Top) rfl (dP rfl rfl (o_idxL td63 sz4 (by decide) (fun _ => rfl) rfl rfl hg (dP rfl rfl (o_loadI1 sz4 ag4 rfl rfl (v := .bool (at' r f.Top)) rfl (dP rfl rfl (o_assign (v := .bool (at' r f.Top)) rfl ?_)))))))))
  refine dP rfl rfl (o_assign (v := .niface) rfl (dN ?_))
  refine Vc.ret' ?_
  refine res_tmp (v := .bool (at' r f.Top)) rfl (res_tmp (v := .niface) rfl (res_nil ?_))
  show Gives _ (.tuple [.bool (at' r f.Top), .niface]) _
  exact gives_out hrg (VW.tupL (vl' vr (vl' vr (vn)))) (hQ _ _ h)
end Go.Proofs.Ytonbnfgknijpoaa
