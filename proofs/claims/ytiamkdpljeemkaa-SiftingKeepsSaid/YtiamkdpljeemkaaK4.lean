/- Walks of functions. Conditions: none. -/
import Derived.Test.YtiamkdpljeemkaaWa
import Derived.Test.YtiamkdpljeemkaaGgTy
import Derived.Test.YtiamkdpljeemkaaGd
import Derived.Test.YtiamkdpljeemkaaK3
/- Walks of functions. Conditions: none. -/
namespace Go.Proofs.Ytiamkdpljeemkaa
open Go.Gg
set_option maxRecDepth 100000
theorem ref14_Place_ctr {l : List Int} {n : Int} {Q : Int → Prop} {S : St} {R : AV → St → Prop} (h : ref14_Place_W l n Q) (hQ : ∀ r1, Q r1 → R (AV.int .i64 r1) S) :
    Ctr Try.prog 103 [eL (AV.int .i64) l, AV.int .i64 n] S R := by
  unfold ref14_Place_W at h
  refine enterT Try.func103 rfl Try.ntmps103 Try.results103 (by kernel_rfl) (fun rg hrg => ?_)
  refine qZ (rZ (asZ (.int .i64 0) rfl (nZ (qZ (qZ (rZ (asZ (.int .i64 0) rfl (nZ ?_))))))))
  refine Vc.blk ?_
  obtain ⟨I, μ, h0, hI⟩ := h
  refine Vc.loop' (σ := (Int)) (fun y => I y) (fun y => μ y) (fun y => envOf [(0, eL (AV.int .i64) l), (1, .int .i64 n), (5, .int .i64 y)]) (fun y => stL S rg []) 0 (canon (fc vr (fc vr (fc vr (fn)))) (sn)) h0 (fun i h => ?_)
  replace h := hI i h
  show Vc _ _ _ _ (envOf [(0, eL (AV.int .i64) l), (1, .int .i64 n), (5, .int .i64 i)]) (stL S rg [])
  refine qZ (qZ (rZ (mvZ (.int .i64 i) rfl (mvZ (eL (AV.int .i64) l) rfl (wZ rg (o_len td25 rfl (wZ rg (o_lss rfl rfl (nZ ?_)))))))))
  refine Vc.cond' rfl (fun hb => ?_) (fun hb => ?_)
  · replace h := h.1 hb
    refine Vc.skip' ?_
    refine qZ ?_
    refine Vc.blk ?_
    refine qZ (rZ (mvZ (eL (AV.int .i64) l) rfl (mvZ (.int .i64 i) rfl (wZ rg (o_idxL td25 sz3 (by decide) (fun _ => rfl) rfl rfl h.1 ?_)))))
    replace h := h.2
    refine wZ rg (o_loadI1 sz3 ag3 rfl rfl (v := .int .i64 (at' l i)) rfl (mvZ (.int .i64 n) rfl (wZ rg (o_eql rfl rfl (nZ ?_)))))
    refine Vc.cond' rfl (fun hb1 => ?_) (fun hb1 => ?_)
    · replace h := h.1 hb1
      refine qZ (rZ (mvZ (.int .i64 i) rfl (asZ (.int .i64 i) rfl (nZ ?_))))
      refine Vc.ret' ?_
      refine res_tmp (v := .int .i64 i) rfl (res_nil ?_)
      show Gives _ (.int .i64 i) _
      exact gives_out hrg (VW.refl _) (hQ _ h)
    replace h := h.2 hb1
    refine Vc.skip' ?_
    refine rZ ?_
    refine mvZ (.int .i64 i) rfl (wZ rg (o_addG rfl rfl h.1 ?_))
    replace h := h.2
    refine asZ (.int .i64 (i + 1)) rfl (nZ ?_)
    exact ⟨(i + 1), (canon (fc vr (fc vr (fc vr (fn)))) (sn)), h⟩
  replace h := h.2 hb
  refine Vc.exit' (exB_self ?_)
  refine qZ (rZ (asZ (.int .i64 (-1)) rfl (nZ ?_)))
  refine Vc.ret' ?_
  refine res_tmp (v := .int .i64 (-1)) rfl (res_nil ?_)
  show Gives _ (.int .i64 (-1)) _
  exact gives_out hrg (VW.refl _) (hQ _ h)
theorem ref14_Place__r0_ctr {l : List Int} {lo : Nat} {ll : Nat} {n : Int} {q0 k0 g0 : Nat} {Q : List Int → Int → Prop} {S : St} {R : AV → St → Prop} (h : ref14_Place__r0_W l lo ll n Q) (hQ : ∀ r1 r2, Q r1 r2 → R (AV.int .i64 r2) (stX S [(q0, k0, .arr 1 (List.map (AV.int .i64) r1), g0)])) :
    Ctr Try.prog 103 [.sl 1 q0 k0 g0 lo ll, AV.int .i64 n] (stX S [(q0, k0, .arr 1 (List.map (AV.int .i64) l), g0)]) R := by
  unfold ref14_Place__r0_W at h
  refine enterT Try.func103 rfl Try.ntmps103 Try.results103 (by kernel_rfl) (fun rg hrg => ?_)
  have hdx : DX [(q0, k0, .arr 1 (List.map (AV.int .i64) l), g0)] := dx1
  have hfr := fun X' e => fresh_set (S := S) (rg := rg) (X := [(q0, k0, .arr 1 (List.map (AV.int .i64) l), g0)]) (X' := X') e hrg
  have hne0 := fresh_ne hdx hrg 0 rfl
  refine qZ (rZ (asZ (.int .i64 0) rfl (nZ (qZ (qZ (rZ (asZ (.int .i64 0) rfl (nZ ?_))))))))
  refine Vc.blk ?_
  obtain ⟨I, μ, h0, hI⟩ := h
  refine Vc.loop' (σ := (Int)) (fun y => I y) (fun y => μ y) (fun y => envOf [(0, .sl 1 q0 k0 g0 lo ll), (1, .int .i64 n), (5, .int .i64 y)]) (fun y => stL (stX S [(q0, k0, .arr 1 (List.map (AV.int .i64) l), g0)]) rg []) 0 (canon (fc vr (fc vr (fc vr (fn)))) (sn)) h0 (fun i h => ?_)
  replace h := hI i h
  show Vc _ _ _ _ (envOf [(0, .sl 1 q0 k0 g0 lo ll), (1, .int .i64 n), (5, .int .i64 i)]) (stL (stX S [(q0, k0, .arr 1 (List.map (AV.int .i64) l), g0)]) rg [])
  refine qZ (qZ (rZ (mvZ (.int .i64 i) rfl (mvZ (.sl 1 q0 k0 g0 lo ll) rfl (wZ rg (o_lenR td25 rfl (wZ rg (o_lss rfl rfl (nZ ?_)))))))))
  refine Vc.cond' rfl (fun hb => ?_) (fun hb => ?_)
  · replace h := h.1 hb
    refine Vc.skip' ?_
    refine qZ ?_
    refine Vc.blk ?_
    refine qZ (rZ (mvZ (.sl 1 q0 k0 g0 lo ll) rfl (mvZ (.int .i64 i) rfl (wZ rg (o_idxRO td25 sz3 (by decide) rfl rfl h.1 ?_)))))
    have hi := h.1
    replace h := h.2
    refine wZ rg (o_loadR1 (atX hne0 hdx 0 rfl) sz3 ag3 rfl (h.1) rfl (v := .int .i64 (at' l ((lo : Int) + i))) rfl ?_)
    replace h := h.2
    refine mvZ (.int .i64 n) rfl (wZ rg (o_eql rfl rfl (nZ ?_)))
    refine Vc.cond' rfl (fun hb1 => ?_) (fun hb1 => ?_)
    · replace h := h.1 hb1
      refine qZ (rZ (mvZ (.int .i64 i) rfl (asZ (.int .i64 i) rfl (nZ ?_))))
      refine Vc.ret' ?_
      refine res_tmp (v := .int .i64 i) rfl (res_nil ?_)
      show Gives _ (.int .i64 i) _
      exact gives_out (hfr _ rfl) (VW.refl _) (hQ _ _ h)
    replace h := h.2 hb1
    refine Vc.skip' ?_
    refine rZ ?_
    refine mvZ (.int .i64 i) rfl (wZ rg (o_addG rfl rfl h.1 ?_))
    replace h := h.2
    refine asZ (.int .i64 (i + 1)) rfl (nZ ?_)
    exact ⟨(i + 1), (canon (fc vr (fc vr (fc vr (fn)))) (sn)), h⟩
  replace h := h.2 hb
  refine Vc.exit' (exB_self ?_)
  refine qZ (rZ (asZ (.int .i64 (-1)) rfl (nZ ?_)))
  refine Vc.ret' ?_
  refine res_tmp (v := .int .i64 (-1)) rfl (res_nil ?_)
  show Gives _ (.int .i64 (-1)) _
  exact gives_out (hfr _ rfl) (VW.refl _) (hQ _ _ h)
end Go.Proofs.Ytiamkdpljeemkaa
/- Walks of functions. Conditions: none. -/
namespace Go.Proofs.Ytiamkdpljeemkaa
open Go.Gg
set_option maxRecDepth 100000
theorem ref15_behind_ctr {d : GDiagram} {ref : Int} {event : Int} {Q : Bool → Prop} {S : St} {R : AV → St → Prop} (h : ref15_behind_W d ref event Q) (hQ : ∀ r1, Q r1 → R (AV.bool r1) S) :
    Ctr Try.prog 137 [eDiagram d, AV.int .i64 ref, AV.int .i64 event] S R := by
  unfold ref15_behind_W at h
  refine enterT Try.func137 rfl Try.ntmps137 Try.results137 (by kernel_rfl) (fun rg hrg => ?_)
  refine qZ (rZ (wZ rg (o_box (v := eDiagram d) rfl rfl (kk := 3) rfl (by decide) (fun g1 => (asZ (.bool false) rfl (nZ (qZ ?_)))))))
  rcases Bool.eq_false_or_eq_true (decide (ref < 2)) with hb | hb
  · replace h := h.1 hb
    refine Vc.drawn' mixed rg (fun _ => jcr2) (by kernel_rfl) ?_
    refine dP rfl rfl (o_move (v := .int .i64 ref) rfl (dP rfl rfl (o_lss rfl rfl (dP rfl rfl (o_move (v := .bool (decide (ref < 2))) rfl ?_)))))
    refine dGF rfl rfl hb rfl ?_
    refine dGF rfl rfl rfl rfl ?_
    refine dGF rfl rfl rfl rfl ?_
    refine dGF rfl rfl rfl rfl ?_
    refine dGF rfl rfl rfl rfl ?_
    refine dGF rfl rfl rfl rfl ?_
    refine dGF rfl rfl rfl rfl ?_
    refine dGF rfl rfl rfl rfl ?_
    refine dGF rfl rfl rfl rfl ?_
    refine dGF rfl rfl rfl rfl ?_
    refine dGF rfl rfl rfl rfl ?_
    refine dGF rfl rfl rfl rfl ?_
    refine dGF rfl rfl rfl rfl ?_
    refine dGF rfl rfl rfl rfl ?_
    refine dGF rfl rfl rfl rfl ?_
    refine dP rfl rfl (o_pickT rfl rfl (v := .bool true) rfl (dP rfl rfl (o_assign (v := .bool true) rfl (dN ?_))))
    refine Vc.ret' ?_
    refine res_tmp (v := .bool true) rfl (res_nil ?_)
    show Gives _ (.bool true) _
    exact gives_out hrg (VW.refl _) (hQ _ h)
  replace h := h.2 hb
  have hg := h.1
  replace h := h.2
  have hg1 := h.1
  replace h := h.2
  obtain ⟨r, hc, h⟩ := h
  obtain ⟨r1, hc1, h⟩ := h
  refine Vc.drawn' mixed rg (usOf [(12, pc (.int .i64 r)), (16, pc (.int .i64 r1))]) (by kernel_rfl) ?_
  refine dP rfl rfl (o_move (v := .int .i64 ref) rfl (dP rfl rfl (o_lss rfl rfl (dP rfl rfl (o_move (v := .bool (decide (ref < 2))) rfl ?_)))))
  refine dGT rfl rfl hb ?_
  refine dP rfl rfl (o_faP td30 rfl rfl (by rw [sz25]; decide) rfl ?_)
  refine dGT rfl rfl rfl ?_
  refine dL (E := ([(rg, 3)], [])) rfl rfl (by simp) (cfn) (o_loadB1 (atL (k := 3) rfl) sz25 ag25 rfl rfl (v := eL (AV.int .i64) d.Order) rfl ?_)
  refine dGT rfl rfl rfl ?_
  refine dP rfl rfl (o_faP td30 rfl rfl (by rw [sz28]; decide) rfl ?_)
  refine dGT rfl rfl rfl ?_
  refine dL (E := ([(rg, 3)], [])) rfl rfl (by simp) (cfa (by simp [apartE]) (cfn)) (o_loadB1 (atL (k := 3) rfl) sz28 ag28 rfl rfl (v := eL eDNode d.Nodes) rfl ?_)
  refine dGT rfl rfl rfl ?_
  refine dP rfl rfl (o_move (v := .int .i64 ref) rfl ?_)
  refine dGT rfl rfl rfl ?_
  refine dP rfl rfl (o_subG rfl rfl hg ?_)
  refine dGT rfl rfl rfl ?_
  refine dP rfl rfl (o_idxL td28 sz97 (by decide) (fun _ => rfl) rfl rfl hg1 ?_)
  refine dGT rfl rfl rfl ?_
  refine dP rfl rfl (o_fa td97 rfl rfl (by rw [sz3]; decide) rfl rfl ?_)
  refine dGT rfl rfl rfl ?_
  refine dP rfl rfl (o_loadI1 sz3 ag3 rfl rfl (v := .int .i64 ((at' d.Nodes (ref - 2)).Var)) rfl ?_)
  refine dGT rfl rfl rfl ?_
  refine dC (vs := [eL (AV.int .i64) d.Order, AV.int .i64 ((at' d.Nodes (ref - 2)).Var)]) rfl (vl' vr (vl' vr (vn))) (fun _ => ref14_Place_ctr hc (fun _ hr => ⟨by rw [hr], rfl⟩)) rfl ?_
  refine dGT rfl rfl rfl ?_
  refine dP rfl rfl (o_faP td30 rfl rfl (by rw [sz25]; decide) rfl ?_)
  refine dGT rfl rfl rfl ?_
  refine dL (E := ([(rg, 3)], [])) rfl rfl (by simp) (cfa (by simp [apartE]) (cfa (by simp [apartE]) (cfn))) (o_loadB1 (atL (k := 3) rfl) sz25 ag25 rfl rfl (v := eL (AV.int .i64) d.Order) rfl ?_)
  refine dGT rfl rfl rfl ?_
  refine dP rfl rfl (o_move (v := .int .i64 event) rfl ?_)
  refine dGT rfl rfl rfl ?_
  refine dC (vs := [eL (AV.int .i64) d.Order, AV.int .i64 event]) rfl (vl' vr (vl' vr (vn))) (fun _ => ref14_Place_ctr hc1 (fun _ hr => ⟨by rw [hr], rfl⟩)) rfl ?_
  refine dGT rfl rfl rfl ?_
  refine dP rfl rfl (o_gtr rfl rfl (dP rfl rfl (o_pickF rfl rfl (v := .bool (decide (r1 < r))) rfl (dP rfl rfl (o_assign (v := .bool (decide (r1 < r))) rfl (dN ?_))))))
  refine Vc.ret' ?_
  refine res_tmp (v := .bool (decide (r1 < r))) rfl (res_nil ?_)
  show Gives _ (.bool (decide (r1 < r))) _
  exact gives_out hrg (VW.refl _) (hQ _ h)
theorem ref15_node_ctr {d : GDiagram} {i : Int} {Q : Int → Prop} {S : St} {R : AV → St → Prop} (h : ref15_node_W d i Q) (hQ : ∀ r1, Q r1 → R (AV.int .i64 r1) S) :
    Ctr Try.prog 92 [eDiagram d, AV.int .i64 i] S R := by
  unfold ref15_node_W at h
  refine enterT Try.func92 rfl Try.ntmps92 Try.results92 (by kernel_rfl) (fun rg hrg => ?_)
  refine qZ (rZ (wZ rg (o_box (v := eDiagram d) rfl rfl (kk := 3) rfl (by decide) (fun g1 => (asZ (.int .i64 0) rfl (nZ (qZ (rZ (wZ rg (o_faP td30 rfl rfl (by rw [sz28]; decide) rfl (wZ rg (o_loadB1 (atL (k := 2) rfl) sz28 ag28 rfl rfl (v := eL eDNode d.Nodes) rfl (mvZ (.int .i64 i) rfl (wZ rg (o_idxL td28 sz97 (by decide) (fun _ => rfl) rfl rfl h.1 ?_)))))))))))))))
  replace h := h.2
  refine wZ rg (o_loadIA sz97 (by decide) ag97 rfl rfl (v := eDNode (at' d.Nodes i)) rfl (wZ rg (o_alloc zav97 ok97 (kk := 3) rfl (fun g2 => (wZ rg (o_storeB (atL (k := 5) rfl) sz97 (by decide) rfl (w := eDNode (at' d.Nodes i)) rfl rfl rfl (v := eDNode (at' d.Nodes i)) rfl setL (nZ (qZ (qZ (rZ (wZ rg (o_faP td97 rfl rfl (by rw [sz3]; decide) rfl ?_))))))))))))
  refine wZ rg (o_loadB1 (atL (k := 5) rfl) sz3 ag3 rfl rfl (v := .int .i64 ((at' d.Nodes i).Var)) rfl (wZ rg (o_lss rfl rfl (mvZ (.bool (decide ((at' d.Nodes i).Var < 0))) rfl ?_))))
  refine Wl.guard rfl rfl (fun hb => ?_) (fun hb => ?_)
  · replace h := h.2 hb
    refine wZ rg (o_faP td97 rfl rfl (by rw [sz3]; decide) rfl ?_)
    refine Wl.guardT rfl rfl hb ?_
    refine wZ rg (o_loadB1 (atL (k := 5) rfl) sz3 ag3 rfl rfl (v := .int .i64 ((at' d.Nodes i).Var)) rfl ?_)
    refine Wl.guardT rfl rfl hb ?_
    refine wZ rg (o_faP td30 rfl rfl (by rw [sz25]; decide) rfl ?_)
    refine Wl.guardT rfl rfl hb ?_
    refine wZ rg (o_loadB1 (atL (k := 2) rfl) sz25 ag25 rfl rfl (v := eL (AV.int .i64) d.Order) rfl ?_)
    refine Wl.guardT rfl rfl hb ?_
    refine wZ rg (o_len td25 rfl ?_)
    refine Wl.guardT rfl rfl hb ?_
    refine wZ rg (o_geq rfl rfl (wZ rg (o_pickF rfl hb (v := .bool (decide ((d.Order.length : Int) ≤ (at' d.Nodes i).Var))) rfl (mvZ (.bool (decide ((d.Order.length : Int) ≤ (at' d.Nodes i).Var))) rfl ?_))))
    refine Wl.guard rfl rfl (fun hb1 => ?_) (fun hb1 => ?_)
    · replace h := h.2 hb1
      refine wZ rg (o_faP td97 rfl rfl (by rw [sz3]; decide) rfl ?_)
      refine Wl.guardT rfl rfl hb1 ?_
      refine wZ rg (o_loadB1 (atL (k := 5) rfl) sz3 ag3 rfl rfl (v := .int .i64 ((at' d.Nodes i).Lo)) rfl ?_)
      refine Wl.guardT rfl rfl hb1 ?_
      refine wZ rg (o_lss rfl rfl (wZ rg (o_pickF rfl hb1 (v := .bool (decide ((at' d.Nodes i).Lo < 0))) rfl (mvZ (.bool (decide ((at' d.Nodes i).Lo < 0))) rfl ?_))))
      refine Wl.guard rfl rfl (fun hb2 => ?_) (fun hb2 => ?_)
      · replace h := h.2 hb2
        refine wZ rg (o_faP td97 rfl rfl (by rw [sz3]; decide) rfl ?_)
        refine Wl.guardT rfl rfl hb2 ?_
        refine wZ rg (o_loadB1 (atL (k := 5) rfl) sz3 ag3 rfl rfl (v := .int .i64 ((at' d.Nodes i).Lo)) rfl ?_)
        refine Wl.guardT rfl rfl hb2 ?_
        refine mvZ (.int .i64 i) rfl ?_
        refine Wl.guardT rfl rfl hb2 ?_
        refine wZ rg (o_addG rfl rfl h.1 ?_)
        replace h := h.2
        refine Wl.guardT rfl rfl hb2 ?_
        refine wZ rg (o_gtr rfl rfl (wZ rg (o_pickF rfl hb2 (v := .bool (decide ((i + 1) < (at' d.Nodes i).Lo))) rfl (mvZ (.bool (decide ((i + 1) < (at' d.Nodes i).Lo))) rfl ?_))))
        refine Wl.guard rfl rfl (fun hb3 => ?_) (fun hb3 => ?_)
        · replace h := h.2 hb3
          refine wZ rg (o_faP td97 rfl rfl (by rw [sz3]; decide) rfl ?_)
          refine Wl.guardT rfl rfl hb3 ?_
          refine wZ rg (o_loadB1 (atL (k := 5) rfl) sz3 ag3 rfl rfl (v := .int .i64 ((at' d.Nodes i).Hi)) rfl ?_)
          refine Wl.guardT rfl rfl hb3 ?_
          refine wZ rg (o_lss rfl rfl (wZ rg (o_pickF rfl hb3 (v := .bool (decide ((at' d.Nodes i).Hi < 0))) rfl (mvZ (.bool (decide ((at' d.Nodes i).Hi < 0))) rfl ?_))))
          refine Wl.guard rfl rfl (fun hb4 => ?_) (fun hb4 => ?_)
          · replace h := h.2 hb4
            refine wZ rg (o_faP td97 rfl rfl (by rw [sz3]; decide) rfl ?_)
            refine Wl.guardT rfl rfl hb4 ?_
            refine wZ rg (o_loadB1 (atL (k := 5) rfl) sz3 ag3 rfl rfl (v := .int .i64 ((at' d.Nodes i).Hi)) rfl ?_)
            refine Wl.guardT rfl rfl hb4 ?_
            refine mvZ (.int .i64 i) rfl ?_
            refine Wl.guardT rfl rfl hb4 ?_
            refine wZ rg (o_addG rfl rfl h.1 ?_)
            replace h := h.2
            refine Wl.guardT rfl rfl hb4 ?_
            refine wZ rg (o_gtr rfl rfl (wZ rg (o_pickF rfl hb4 (v := .bool (decide ((i + 1) < (at' d.Nodes i).Hi))) rfl (nZ ?_))))
            refine Vc.cond' rfl (fun hb5 => ?_) (fun hb5 => ?_)
            · replace h := h.1 hb5
              refine qZ (rZ (asZ (.int .i64 10) rfl (nZ ?_)))
              refine Vc.ret' ?_
              refine res_tmp (v := .int .i64 10) rfl (res_nil ?_)
              show Gives _ (.int .i64 10) _
              exact gives_out hrg (VW.refl _) (hQ _ h)
            replace h := h.2 hb5
            refine Vc.skip' ?_
            refine qZ (qZ (rZ (wZ rg (o_faP td97 rfl rfl (by rw [sz3]; decide) rfl (wZ rg (o_loadB1 (atL (k := 5) rfl) sz3 ag3 rfl rfl (v := .int .i64 ((at' d.Nodes i).Lo)) rfl (wZ rg (o_faP td97 rfl rfl (by rw [sz3]; decide) rfl (wZ rg (o_loadB1 (atL (k := 5) rfl) sz3 ag3 rfl rfl (v := .int .i64 ((at' d.Nodes i).Hi)) rfl (wZ rg (o_eql rfl rfl (nZ ?_)))))))))))))
            refine Vc.cond' rfl (fun hb6 => ?_) (fun hb6 => ?_)
            · replace h := h.1 hb6
              refine qZ (rZ (asZ (.int .i64 2) rfl (nZ ?_)))
              refine Vc.ret' ?_
              refine res_tmp (v := .int .i64 2) rfl (res_nil ?_)
              show Gives _ (.int .i64 2) _
              exact gives_out hrg (VW.refl _) (hQ _ h)
            replace h := h.2 hb6
            refine Vc.skip' ?_
            refine qZ (qZ (rZ (wZ rg (o_loadBA (atL (k := 2) rfl) sz30 (by decide) ag30 rfl rfl (v := eDiagram d) rfl (wZ rg (o_faP td97 rfl rfl (by rw [sz3]; decide) rfl (wZ rg (o_loadB1 (atL (k := 5) rfl) sz3 ag3 rfl rfl (v := .int .i64 ((at' d.Nodes i).Lo)) rfl (wZ rg (o_faP td97 rfl rfl (by rw [sz3]; decide) rfl ?_))))))))))
            refine wZ rg (o_loadB1 (atL (k := 5) rfl) sz3 ag3 rfl rfl (v := .int .i64 ((at' d.Nodes i).Var)) rfl (wZ rg (o_call (us := [eDiagram d, AV.int .i64 ((at' d.Nodes i).Lo), AV.int .i64 ((at' d.Nodes i).Var)]) rfl (vl' vr (vl' vr (vl' vr (vn)))) (ref15_behind_ctr h fun r h => (wZ rg (o_not rfl (mvZ (.bool (!r)) rfl ?_)))))))
            refine Wl.guard rfl rfl (fun hb7 => ?_) (fun hb7 => ?_)
            · replace h := h.2 hb7
              refine wZ rg (o_loadBA (atL (k := 2) rfl) sz30 (by decide) ag30 rfl rfl (v := eDiagram d) rfl ?_)
              refine Wl.guardT rfl rfl hb7 ?_
              refine wZ rg (o_faP td97 rfl rfl (by rw [sz3]; decide) rfl ?_)
              refine Wl.guardT rfl rfl hb7 ?_
              refine wZ rg (o_loadB1 (atL (k := 5) rfl) sz3 ag3 rfl rfl (v := .int .i64 ((at' d.Nodes i).Hi)) rfl ?_)
              refine Wl.guardT rfl rfl hb7 ?_
              refine wZ rg (o_faP td97 rfl rfl (by rw [sz3]; decide) rfl ?_)
              refine Wl.guardT rfl rfl hb7 ?_
              refine wZ rg (o_loadB1 (atL (k := 5) rfl) sz3 ag3 rfl rfl (v := .int .i64 ((at' d.Nodes i).Var)) rfl ?_)
              refine Wl.guardT rfl rfl hb7 ?_
              refine wZ rg (o_call (us := [eDiagram d, AV.int .i64 ((at' d.Nodes i).Hi), AV.int .i64 ((at' d.Nodes i).Var)]) rfl (vl' vr (vl' vr (vl' vr (vn)))) (ref15_behind_ctr h fun r1 h => ?_))
              refine Wl.guardT rfl rfl hb7 ?_
              refine wZ rg (o_not rfl (wZ rg (o_pickF rfl hb7 (v := .bool (!r1)) rfl (nZ ?_))))
              refine Vc.cond' rfl (fun hb8 => ?_) (fun hb8 => ?_)
              · replace h := h.1 hb8
                refine qZ (rZ (asZ (.int .i64 13) rfl (nZ ?_)))
                refine Vc.ret' ?_
                refine res_tmp (v := .int .i64 13) rfl (res_nil ?_)
                show Gives _ (.int .i64 13) _
                exact gives_out hrg (VW.refl _) (hQ _ h)
              replace h := h.2 hb8
              refine Vc.skip' ?_
              refine qZ (qZ (rZ (asZ (.int .i64 0) rfl (nZ ?_))))
              refine Vc.blk ?_
              obtain ⟨I, μ, h0, hI⟩ := h
              refine Vc.loop' (σ := (Int)) (fun y => I y) (fun y => μ y) (fun y => envOf [(1, .int .i64 i), (2, .ptr rg 2 g1 0 0), (5, .ptr rg 5 g2 0 0), (6, .int .i64 y)]) (fun y => stL S rg [(2, .arr 3 [eDiagram d], g1), (5, .arr 3 [eDNode (at' d.Nodes i)], g2)]) 0 (canon (fc vr (fc vr (fc vr (fc vr (fn))))) (sc rfl (sc rfl (sn)))) h0 (fun k1 h => ?_)
              replace h := hI k1 h
              show Vc _ _ _ _ (envOf [(1, .int .i64 i), (2, .ptr rg 2 g1 0 0), (5, .ptr rg 5 g2 0 0), (6, .int .i64 k1)]) (stL S rg [(2, .arr 3 [eDiagram d], g1), (5, .arr 3 [eDNode (at' d.Nodes i)], g2)])
              refine qZ (qZ (rZ (mvZ (.int .i64 k1) rfl (mvZ (.int .i64 i) rfl (wZ rg (o_lss rfl rfl (nZ ?_)))))))
              refine Vc.cond' rfl (fun hb9 => ?_) (fun hb9 => ?_)
              · replace h := h.1 hb9
                refine Vc.skip' ?_
                refine qZ ?_
                refine Vc.blk ?_
                refine qZ ?_
                have hg := h.1
                replace h := h.2
                refine Vc.drawn' mixed rg (fun _ => jcr2) (by kernel_rfl) ?_
                refine dP rfl rfl (o_faP td30 rfl rfl (by rw [sz28]; decide) rfl (dL (E := ([(rg, 2)], [])) rfl rfl (by simp) (cfn) (o_loadB1 (atL (k := 2) rfl) sz28 ag28 rfl rfl (v := eL eDNode d.Nodes) rfl (dP rfl rfl (o_move (v := .int .i64 k1) rfl (dP rfl rfl (o_idxL td28 sz97 (by decide) (fun _ => rfl) rfl rfl hg (dP rfl rfl (o_loadIA sz97 (by decide) ag97 rfl rfl (v := eDNode (at' d.Nodes k1)) rfl ?_)))))))))
                refine dL (E := ([(rg, 5)], [])) rfl rfl (by simp) (cfa (by simp [apartE]) (cfn)) (o_loadBA (atL (k := 5) rfl) sz97 (by decide) ag97 rfl rfl (v := eDNode (at' d.Nodes i)) rfl (dP rfl rfl (o_eqlS ksh97 rfl rfl rfl rfl (dN ?_))))
                refine Vc.cond' rfl (fun hb10 => ?_) (fun hb10 => ?_)
                · replace h := h.1 hb10
                  refine qZ (rZ (asZ (.int .i64 6) rfl (nZ ?_)))
                  refine Vc.ret' ?_
                  refine res_tmp (v := .int .i64 6) rfl (res_nil ?_)
                  show Gives _ (.int .i64 6) _
                  exact gives_out hrg (VW.refl _) (hQ _ h)
                replace h := h.2 hb10
                refine Vc.skip' ?_
                refine rZ ?_
                refine mvZ (.int .i64 k1) rfl (wZ rg (o_addG rfl rfl h.1 ?_))
                replace h := h.2
                refine asZ (.int .i64 (k1 + 1)) rfl (nZ ?_)
                exact ⟨(k1 + 1), (canon (fc vr (fc vr (fc vr (fc vr (fn))))) (sc rfl (sc rfl (sn)))), h⟩
              replace h := h.2 hb9
              refine Vc.exit' (exB_self ?_)
              refine qZ (rZ (asZ (.int .i64 0) rfl (nZ ?_)))
              refine Vc.ret' ?_
              refine res_tmp (v := .int .i64 0) rfl (res_nil ?_)
              show Gives _ (.int .i64 0) _
              exact gives_out hrg (VW.refl _) (hQ _ h)
            replace h := h.1 hb7
            refine Wl.guardF rfl rfl hb7 rfl ?_
            refine Wl.guardF rfl rfl hb7 rfl ?_
            refine Wl.guardF rfl rfl hb7 rfl ?_
            refine Wl.guardF rfl rfl hb7 rfl ?_
            refine Wl.guardF rfl rfl hb7 rfl ?_
            refine Wl.guardF rfl rfl hb7 rfl ?_
            refine wZ rg (o_pickT rfl hb7 (v := .bool true) rfl (nZ ?_))
            refine Vc.cond' rfl (fun _ => ?_) (fun hb => Bool.noConfusion hb)
            refine qZ (rZ (asZ (.int .i64 13) rfl (nZ ?_)))
            refine Vc.ret' ?_
            refine res_tmp (v := .int .i64 13) rfl (res_nil ?_)
            show Gives _ (.int .i64 13) _
            exact gives_out hrg (VW.refl _) (hQ _ h)
          replace h := h.1 hb4
          refine Wl.guardF rfl rfl hb4 rfl ?_
          refine Wl.guardF rfl rfl hb4 rfl ?_
          refine Wl.guardF rfl rfl hb4 rfl ?_
          refine Wl.guardF rfl rfl hb4 rfl ?_
          refine wZ rg (o_pickT rfl hb4 (v := .bool true) rfl (nZ ?_))
          refine Vc.cond' rfl (fun _ => ?_) (fun hb => Bool.noConfusion hb)
          refine qZ (rZ (asZ (.int .i64 10) rfl (nZ ?_)))
          refine Vc.ret' ?_
          refine res_tmp (v := .int .i64 10) rfl (res_nil ?_)
          show Gives _ (.int .i64 10) _
          exact gives_out hrg (VW.refl _) (hQ _ h)
        replace h := h.1 hb3
        refine Wl.guardF rfl rfl hb3 rfl ?_
        refine Wl.guardF rfl rfl hb3 rfl ?_
        refine wZ rg (o_pickT rfl hb3 (v := .bool true) rfl (mvZ (.bool true) rfl ?_))
        refine Wl.guardF rfl rfl rfl rfl ?_
        refine Wl.guardF rfl rfl rfl rfl ?_
        refine Wl.guardF rfl rfl rfl rfl ?_
        refine Wl.guardF rfl rfl rfl rfl ?_
        refine Wl.guardF rfl rfl rfl rfl ?_
        refine wZ rg (o_pickT rfl rfl (v := .bool true) rfl (nZ ?_))
        refine Vc.cond' rfl (fun _ => ?_) (fun hb => Bool.noConfusion hb)
        refine qZ (rZ (asZ (.int .i64 10) rfl (nZ ?_)))
        refine Vc.ret' ?_
        refine res_tmp (v := .int .i64 10) rfl (res_nil ?_)
        show Gives _ (.int .i64 10) _
        exact gives_out hrg (VW.refl _) (hQ _ h)
      replace h := h.1 hb2
      refine Wl.guardF rfl rfl hb2 rfl ?_
      refine Wl.guardF rfl rfl hb2 rfl ?_
      refine Wl.guardF rfl rfl hb2 rfl ?_
      refine Wl.guardF rfl rfl hb2 rfl ?_
      refine wZ rg (o_pickT rfl hb2 (v := .bool true) rfl (mvZ (.bool true) rfl ?_))
      refine Wl.guardF rfl rfl rfl rfl ?_
      refine Wl.guardF rfl rfl rfl rfl ?_
      refine Wl.guardF rfl rfl rfl rfl ?_
      refine wZ rg (o_pickT rfl rfl (v := .bool true) rfl (mvZ (.bool true) rfl ?_))
      refine Wl.guardF rfl rfl rfl rfl ?_
      refine Wl.guardF rfl rfl rfl rfl ?_
      refine Wl.guardF rfl rfl rfl rfl ?_
      refine Wl.guardF rfl rfl rfl rfl ?_
      refine Wl.guardF rfl rfl rfl rfl ?_
      refine wZ rg (o_pickT rfl rfl (v := .bool true) rfl (nZ ?_))
      refine Vc.cond' rfl (fun _ => ?_) (fun hb => Bool.noConfusion hb)
      refine qZ (rZ (asZ (.int .i64 10) rfl (nZ ?_)))
      refine Vc.ret' ?_
      refine res_tmp (v := .int .i64 10) rfl (res_nil ?_)
      show Gives _ (.int .i64 10) _
      exact gives_out hrg (VW.refl _) (hQ _ h)
    replace h := h.1 hb1
    refine Wl.guardF rfl rfl hb1 rfl ?_
    refine Wl.guardF rfl rfl hb1 rfl ?_
    refine wZ rg (o_pickT rfl hb1 (v := .bool true) rfl (mvZ (.bool true) rfl ?_))
    refine Wl.guardF rfl rfl rfl rfl ?_
    refine Wl.guardF rfl rfl rfl rfl ?_
    refine Wl.guardF rfl rfl rfl rfl ?_
    refine Wl.guardF rfl rfl rfl rfl ?_
    refine Wl.guardF rfl rfl rfl rfl ?_
    refine wZ rg (o_pickT rfl rfl (v := .bool true) rfl (mvZ (.bool true) rfl ?_))
    refine Wl.guardF rfl rfl rfl rfl ?_
    refine Wl.guardF rfl rfl rfl rfl ?_
    refine Wl.guardF rfl rfl rfl rfl ?_
    refine wZ rg (o_pickT rfl rfl (v := .bool true) rfl (mvZ (.bool true) rfl ?_))
    refine Wl.guardF rfl rfl rfl rfl ?_
    refine Wl.guardF rfl rfl rfl rfl ?_
    refine Wl.guardF rfl rfl rfl rfl ?_
    refine Wl.guardF rfl rfl rfl rfl ?_
    refine Wl.guardF rfl rfl rfl rfl ?_
    refine wZ rg (o_pickT rfl rfl (v := .bool true) rfl (nZ ?_))
    refine Vc.cond' rfl (fun _ => ?_) (fun hb => Bool.noConfusion hb)
    refine qZ (rZ (asZ (.int .i64 10) rfl (nZ ?_)))
    refine Vc.ret' ?_
    refine res_tmp (v := .int .i64 10) rfl (res_nil ?_)
    show Gives _ (.int .i64 10) _
    exact gives_out hrg (VW.refl _) (hQ _ h)
  replace h := h.1 hb
  refine Wl.guardF rfl rfl hb rfl ?_
  refine Wl.guardF rfl rfl hb rfl ?_
  refine Wl.guardF rfl rfl hb rfl ?_
  refine Wl.guardF rfl rfl hb rfl ?_
  refine Wl.guardF rfl rfl hb rfl ?_
  refine wZ rg (o_pickT rfl hb (v := .bool true) rfl (mvZ (.bool true) rfl ?_))
  refine Wl.guardF rfl rfl rfl rfl ?_
  refine Wl.guardF rfl rfl rfl rfl ?_
  refine Wl.guardF rfl rfl rfl rfl ?_
  refine wZ rg (o_pickT rfl rfl (v := .bool true) rfl (mvZ (.bool true) rfl ?_))
  refine Wl.guardF rfl rfl rfl rfl ?_
  refine Wl.guardF rfl rfl rfl rfl ?_
  refine Wl.guardF rfl rfl rfl rfl ?_
  refine Wl.guardF rfl rfl rfl rfl ?_
  refine Wl.guardF rfl rfl rfl rfl ?_
  refine wZ rg (o_pickT rfl rfl (v := .bool true) rfl (mvZ (.bool true) rfl ?_))
  refine Wl.guardF rfl rfl rfl rfl ?_
  refine Wl.guardF rfl rfl rfl rfl ?_
  refine Wl.guardF rfl rfl rfl rfl ?_
  refine wZ rg (o_pickT rfl rfl (v := .bool true) rfl (mvZ (.bool true) rfl ?_))
  refine Wl.guardF rfl rfl rfl rfl ?_
  refine Wl.guardF rfl rfl rfl rfl ?_
  refine Wl.guardF rfl rfl rfl rfl ?_
  refine Wl.guardF rfl rfl rfl rfl ?_
  refine Wl.guardF rfl rfl rfl rfl ?_
  refine wZ rg (o_pickT rfl rfl (v := .bool true) rfl (nZ ?_))
  refine Vc.cond' rfl (fun _ => ?_) (fun hb => Bool.noConfusion hb)
  refine qZ (rZ (asZ (.int .i64 10) rfl (nZ ?_)))
  refine Vc.ret' ?_
  refine res_tmp (v := .int .i64 10) rfl (res_nil ?_)
  show Gives _ (.int .i64 10) _
  exact gives_out hrg (VW.refl _) (hQ _ h)
theorem ref15_number__e_ctr {fu : Nat} : ∀ {d : GDiagram} {ref : Int} {before : List Int} {q0 k0 g0 : Nat} (_hdk : DK [(q0, k0)]) {Q : List Int → Prop} {S : St} {R : AV → St → Prop} (_h : ref15_number__e_W fu d ref before Q) (_hQ : ∀ r1, ∀ h0, Q r1 → R (.sl 1 q0 k0 h0 0 r1.length) (stX S [(q0, k0, .arr 1 (List.map (AV.int .i64) r1), h0)])),
    Ctr Try.prog 93 [eDiagram d, AV.int .i64 ref, .sl 1 q0 k0 g0 0 before.length] (stX S [(q0, k0, .arr 1 (List.map (AV.int .i64) before), g0)]) R := by
  induction fu with
  | zero =>
    intro d ref before q0 k0 g0 hdk Q S R h hQ
    exact False.elim h
  | succ fu ih =>
  intro d ref before q0 k0 g0 hdk Q S R h hQ
  rw [ref15_number__e_W] at h
  refine enterT Try.func93 rfl Try.ntmps93 Try.results93 (by kernel_rfl) (fun rg hrg => ?_)
  have hdx : DX [(q0, k0, .arr 1 (List.map (AV.int .i64) before), g0)] := hdk
  have hfr := fun X' e => fresh_set (S := S) (rg := rg) (X := [(q0, k0, .arr 1 (List.map (AV.int .i64) before), g0)]) (X' := X') e hrg
  have hne0 := fresh_ne hdx hrg 0 rfl
  refine qZ (rZ (wZ rg (o_box (v := eDiagram d) rfl rfl (kk := 3) rfl (by decide) (fun g1 => (asZ .nil rfl (nZ (qZ (qZ (rZ (mvZ (.int .i64 ref) rfl (wZ rg (o_lss rfl rfl (mvZ (.bool (decide (ref < 2))) rfl ?_)))))))))))))
  refine Wl.guard rfl rfl (fun hb => ?_) (fun hb => ?_)
  · replace h := h.2 hb
    refine mvZ (.sl 1 q0 k0 g0 0 before.length) rfl ?_
    refine Wl.guardT rfl rfl hb ?_
    refine mvZ (.int .i64 ref) rfl ?_
    refine Wl.guardT rfl rfl hb ?_
    refine wZ rg (o_call (us := [.sl 1 q0 k0 g0 0 before.length, AV.int .i64 ref]) rfl (vl' vr (vl' vr (vn))) (ctrX (stX_same1 (atX hne0 hdx 0 rfl)) (ref14_Place__r0_ctr h fun before1 r h => ?_)))
    refine Wl.eqS (setX hne0 hdx 0 rfl rfl) ?_
    have hl := h.1
    replace h := h.2
    refine Wl.guardT rfl rfl hb ?_
    refine wZ rg (o_geq rfl rfl (wZ rg (o_pickF rfl hb (v := .bool (decide (0 ≤ r))) rfl (nZ ?_))))
    refine Vc.cond' rfl (fun hb1 => ?_) (fun hb1 => ?_)
    · replace h := h.1 hb1
      refine qZ (rZ (mvZ (.sl 1 q0 k0 g0 0 before.length) rfl (asZ (.sl 1 q0 k0 g0 0 before.length) rfl (nZ ?_))))
      refine Vc.ret' ?_
      refine res_tmp (v := .sl 1 q0 k0 g0 0 before.length) rfl (res_nil ?_)
      show Gives _ (.sl 1 q0 k0 g0 0 before.length) _
      exact gives_out (hfr _ rfl) (VW.slen (by first | rfl | omega | (simp only [go_sem] <;> omega))) (hQ _ _ h)
    replace h := h.2 hb1
    refine Vc.skip' ?_
    refine qZ (rZ (wZ rg (o_faP td30 rfl rfl (by rw [sz28]; decide) rfl (wZ rg (o_loadB1 (atL (k := 3) rfl) sz28 ag28 rfl rfl (v := eL eDNode d.Nodes) rfl (mvZ (.int .i64 ref) rfl (wZ rg (o_subG rfl rfl h.1 ?_))))))))
    replace h := h.2
    refine wZ rg (o_idxL td28 sz97 (by decide) (fun _ => rfl) rfl rfl h.1 ?_)
    replace h := h.2
    refine wZ rg (o_loadIA sz97 (by decide) ag97 rfl rfl (v := eDNode (at' d.Nodes (ref - 2))) rfl (wZ rg (o_alloc zav97 ok97 (kk := 3) rfl (fun g2 => (wZ rg (o_storeB (atL (k := 7) rfl) sz97 (by decide) rfl (w := eDNode (at' d.Nodes (ref - 2))) rfl rfl rfl (v := eDNode (at' d.Nodes (ref - 2))) rfl setL (nZ (qZ (rZ ?_)))))))))
    refine wZ rg (o_loadBA (atL (k := 3) rfl) sz30 (by decide) ag30 rfl rfl (v := eDiagram d) rfl (wZ rg (o_faP td97 rfl rfl (by rw [sz3]; decide) rfl (wZ rg (o_loadB1 (atL (k := 7) rfl) sz3 ag3 rfl rfl (v := .int .i64 ((at' d.Nodes (ref - 2)).Lo)) rfl (mvZ (.sl 1 q0 k0 g0 0 before.length) rfl ?_))))))
    refine wZ rg (o_call (us := [eDiagram d, AV.int .i64 ((at' d.Nodes (ref - 2)).Lo), .sl 1 q0 k0 g0 0 before1.length]) rfl (vl' vr (vl' vr (vl' (VW.slen (by first | rfl | omega | (simp only [go_sem] <;> omega))) (vn)))) (ctrX (sx_c (atX hne0 hdx 0 rfl) (sx_n)) (ih (dk_c (ni_n) (dk_n)) h fun before2 g3 h => ?_)))
    refine Wl.eqS (sy_c (sx_n) (setX hne0 hdx 0 rfl rfl)) ?_
    refine asZ (.sl 1 q0 k0 g3 0 before2.length) rfl (nZ (qZ (rZ (wZ rg (o_loadBA (atL (k := 3) rfl) sz30 (by decide) ag30 rfl rfl (v := eDiagram d) rfl (wZ rg (o_faP td97 rfl rfl (by rw [sz3]; decide) rfl (wZ rg (o_loadB1 (atL (k := 7) rfl) sz3 ag3 rfl rfl (v := .int .i64 ((at' d.Nodes (ref - 2)).Hi)) rfl (mvZ (.sl 1 q0 k0 g3 0 before2.length) rfl ?_))))))))))
    refine wZ rg (o_call (us := [eDiagram d, AV.int .i64 ((at' d.Nodes (ref - 2)).Hi), .sl 1 q0 k0 g3 0 before2.length]) rfl (vl' vr (vl' vr (vl' vr (vn)))) (ctrX (sx_c (atX hne0 hdx 0 rfl) (sx_n)) (ih (dk_c (ni_n) (dk_n)) h fun before3 g4 h => ?_)))
    refine Wl.eqS (sy_c (sx_n) (setX hne0 hdx 0 rfl rfl)) ?_
    refine asZ (.sl 1 q0 k0 g4 0 before3.length) rfl (nZ (qZ (rZ (mvZ (.sl 1 q0 k0 g4 0 before3.length) rfl (mvZ (.int .i64 ref) rfl (wZ rg (o_bslice td25 ok3 zav3 (es := [.int .i64 ref]) rfl (kk := 1) rfl rfl rfl rfl rfl rfl (fun g5 => ?_))))))))
    refine wZ rg (o_appR td25 bts3 ok3 zav3 (es := before3) (xs := [ref]) (enc := AV.int .i64) (atX hne0 hdx 0 rfl) (by first | rfl | omega | (simp only [go_sem] <;> omega)) (view_rowE (atL (k := 35) rfl) (by first | rfl | omega | (simp only [go_sem] <;> omega))) (kk := 1) rfl rfl (fun _ => rfl) (fun _ => rfl) h.1 rfl (fun _ => (setX hne0 hdx 0 rfl rfl)) (fun g6 => ?_))
    replace h := h.2
    refine asZ (.sl 1 q0 k0 g6 0 ((before3 ++ [ref]).length)) rfl (nZ ?_)
    refine Vc.ret' ?_
    refine res_tmp (v := .sl 1 q0 k0 g6 0 ((before3 ++ [ref]).length)) rfl (res_nil ?_)
    show Gives _ (.sl 1 q0 k0 g6 0 ((before3 ++ [ref]).length)) _
    exact gives_out (hfr _ rfl) (VW.refl _) (hQ _ _ h)
  replace h := h.1 hb
  refine Wl.guardF rfl rfl hb rfl ?_
  refine Wl.guardF rfl rfl hb rfl ?_
  refine Wl.guardF rfl rfl hb rfl ?_
  refine wZ rg (o_pickT rfl hb (v := .bool true) rfl (nZ ?_))
  refine Vc.cond' rfl (fun _ => ?_) (fun hb => Bool.noConfusion hb)
  refine qZ (rZ (mvZ (.sl 1 q0 k0 g0 0 before.length) rfl (asZ (.sl 1 q0 k0 g0 0 before.length) rfl (nZ ?_))))
  refine Vc.ret' ?_
  refine res_tmp (v := .sl 1 q0 k0 g0 0 before.length) rfl (res_nil ?_)
  show Gives _ (.sl 1 q0 k0 g0 0 before.length) _
  exact gives_out (hfr _ rfl) (VW.refl _) (hQ _ _ h)
theorem ref15_Check_ctr {d : GDiagram} {Q : Int → Prop} {S : St} {R : AV → St → Prop} (h : ref15_Check_W d Q) (hQ : ∀ r1, Q r1 → R (AV.int .i64 r1) S) :
    Ctr Try.prog 37 [eDiagram d] S R := by
  unfold ref15_Check_W at h
  refine enterT Try.func37 rfl Try.ntmps37 Try.results37 (by kernel_rfl) (fun rg hrg => ?_)
  refine qZ (rZ (wZ rg (o_box (v := eDiagram d) rfl rfl (kk := 3) rfl (by decide) (fun g1 => (asZ (.int .i64 0) rfl (nZ (qZ (qZ (rZ (wZ rg (o_faP td30 rfl rfl (by rw [sz25]; decide) rfl (wZ rg (o_loadB1 (atL (k := 1) rfl) sz25 ag25 rfl rfl (v := eL (AV.int .i64) d.Order) rfl (wZ rg (o_faP td30 rfl rfl (by rw [sz25]; decide) rfl ?_)))))))))))))))
  refine wZ rg (o_loadB1 (atL (k := 1) rfl) sz25 ag25 rfl rfl (v := eL (AV.int .i64) d.Order) rfl (wZ rg (o_len td25 rfl (wZ rg (o_call (us := [eL (AV.int .i64) d.Order, AV.int .i64 (d.Order.length : Int)]) rfl (vl' vr (vl' vr (vn))) (ref14_Check_ctr h fun e h => (asZ (.int .i64 e) rfl (nZ (qZ (rZ (mvZ (.int .i64 e) rfl (wZ rg (o_neq rfl rfl (nZ ?_))))))))))))))
  refine Vc.cond' rfl (fun hb => ?_) (fun hb => ?_)
  · replace h := h.1 hb
    refine qZ (rZ (mvZ (.int .i64 e) rfl (asZ (.int .i64 e) rfl (nZ ?_))))
    refine Vc.ret' ?_
    refine res_tmp (v := .int .i64 e) rfl (res_nil ?_)
    show Gives _ (.int .i64 e) _
    exact gives_out hrg (VW.refl _) (hQ _ h)
  replace h := h.2 hb
  refine Vc.skip' ?_
  refine qZ (qZ (rZ (wZ rg (o_faP td30 rfl rfl (by rw [sz28]; decide) rfl (wZ rg (o_loadB1 (atL (k := 1) rfl) sz28 ag28 rfl rfl (v := eL eDNode d.Nodes) rfl (wZ rg (o_len td28 rfl (wZ rg (o_gtr rfl rfl (nZ ?_)))))))))))
  refine Vc.cond' rfl (fun hb1 => ?_) (fun hb1 => ?_)
  · replace h := h.1 hb1
    refine qZ (rZ (asZ (.int .i64 4) rfl (nZ ?_)))
    refine Vc.ret' ?_
    refine res_tmp (v := .int .i64 4) rfl (res_nil ?_)
    show Gives _ (.int .i64 4) _
    exact gives_out hrg (VW.refl _) (hQ _ h)
  replace h := h.2 hb1
  refine Vc.skip' ?_
  refine qZ (qZ (rZ (asZ (.int .i64 0) rfl (nZ ?_))))
  refine Vc.blk ?_
  obtain ⟨I, μ, h0, hI⟩ := h
  refine Vc.loop' (σ := (Int)) (fun y => I y) (fun y => μ y) (fun y => envOf [(1, .ptr rg 1 g1 0 0), (4, .int .i64 y)]) (fun y => stL S rg [(1, .arr 3 [eDiagram d], g1)]) 0 (canon (fc vr (fc vr (fn))) (sc rfl (sn))) h0 (fun i h => ?_)
  replace h := hI i h
  show Vc _ _ _ _ (envOf [(1, .ptr rg 1 g1 0 0), (4, .int .i64 i)]) (stL S rg [(1, .arr 3 [eDiagram d], g1)])
  refine qZ (qZ (rZ (mvZ (.int .i64 i) rfl (wZ rg (o_faP td30 rfl rfl (by rw [sz28]; decide) rfl (wZ rg (o_loadB1 (atL (k := 1) rfl) sz28 ag28 rfl rfl (v := eL eDNode d.Nodes) rfl (wZ rg (o_len td28 rfl (wZ rg (o_lss rfl rfl (nZ ?_))))))))))))
  refine Vc.cond' rfl (fun hb2 => ?_) (fun hb2 => ?_)
  · replace h := h.1 hb2
    refine Vc.skip' ?_
    refine qZ ?_
    refine Vc.blk ?_
    refine qZ (rZ (wZ rg (o_loadBA (atL (k := 1) rfl) sz30 (by decide) ag30 rfl rfl (v := eDiagram d) rfl (mvZ (.int .i64 i) rfl (wZ rg (o_call (us := [eDiagram d, AV.int .i64 i]) rfl (vl' vr (vl' vr (vn))) (ref15_node_ctr h fun e1 h => (asZ (.int .i64 e1) rfl (nZ (qZ (rZ (mvZ (.int .i64 e1) rfl (wZ rg (o_neq rfl rfl (nZ ?_)))))))))))))))
    refine Vc.cond' rfl (fun hb3 => ?_) (fun hb3 => ?_)
    · replace h := h.1 hb3
      refine qZ (rZ (mvZ (.int .i64 e1) rfl (asZ (.int .i64 e1) rfl (nZ ?_))))
      refine Vc.ret' ?_
      refine res_tmp (v := .int .i64 e1) rfl (res_nil ?_)
      show Gives _ (.int .i64 e1) _
      exact gives_out hrg (VW.refl _) (hQ _ h)
    replace h := h.2 hb3
    refine Vc.skip' ?_
    refine rZ ?_
    refine mvZ (.int .i64 i) rfl (wZ rg (o_addG rfl rfl h.1 ?_))
    replace h := h.2
    refine asZ (.int .i64 (i + 1)) rfl (nZ ?_)
    exact ⟨(i + 1), (canon (fc vr (fc vr (fn))) (sc rfl (sn))), h⟩
  replace h := h.2 hb2
  refine Vc.exit' (exB_self ?_)
  refine qZ (qZ (rZ (wZ rg (o_faP td30 rfl rfl (by rw [sz3]; decide) rfl (wZ rg (o_loadB1 (atL (k := 1) rfl) sz3 ag3 rfl rfl (v := .int .i64 d.Root) rfl (wZ rg (o_lss rfl rfl (mvZ (.bool (decide (d.Root < 0))) rfl ?_)))))))))
  refine Wl.guard rfl rfl (fun hb4 => ?_) (fun hb4 => ?_)
  · replace h := h.2 hb4
    refine wZ rg (o_faP td30 rfl rfl (by rw [sz3]; decide) rfl ?_)
    refine Wl.guardT rfl rfl hb4 ?_
    refine wZ rg (o_loadB1 (atL (k := 1) rfl) sz3 ag3 rfl rfl (v := .int .i64 d.Root) rfl ?_)
    refine Wl.guardT rfl rfl hb4 ?_
    refine wZ rg (o_faP td30 rfl rfl (by rw [sz28]; decide) rfl ?_)
    refine Wl.guardT rfl rfl hb4 ?_
    refine wZ rg (o_loadB1 (atL (k := 1) rfl) sz28 ag28 rfl rfl (v := eL eDNode d.Nodes) rfl ?_)
    refine Wl.guardT rfl rfl hb4 ?_
    refine wZ rg (o_len td28 rfl ?_)
    refine Wl.guardT rfl rfl hb4 ?_
    refine wZ rg (o_addG rfl rfl h.1 ?_)
    replace h := h.2
    refine Wl.guardT rfl rfl hb4 ?_
    refine wZ rg (o_gtr rfl rfl (wZ rg (o_pickF rfl hb4 (v := .bool (decide ((1 + (d.Nodes.length : Int)) < d.Root))) rfl (nZ ?_))))
    refine Vc.cond' rfl (fun hb5 => ?_) (fun hb5 => ?_)
    · replace h := h.1 hb5
      refine qZ (rZ (asZ (.int .i64 10) rfl (nZ ?_)))
      refine Vc.ret' ?_
      refine res_tmp (v := .int .i64 10) rfl (res_nil ?_)
      show Gives _ (.int .i64 10) _
      exact gives_out hrg (VW.refl _) (hQ _ h)
    replace h := h.2 hb5
    refine Vc.skip' ?_
    refine qZ (rZ (wZ rg (o_loadBA (atL (k := 1) rfl) sz30 (by decide) ag30 rfl rfl (v := eDiagram d) rfl (wZ rg (o_faP td30 rfl rfl (by rw [sz3]; decide) rfl (wZ rg (o_loadB1 (atL (k := 1) rfl) sz3 ag3 rfl rfl (v := .int .i64 d.Root) rfl ?_)))))))
    obtain ⟨_, h⟩ := h
    refine wZ rg (o_call (us := [eDiagram d, AV.int .i64 d.Root, .nil]) rfl (vl' vr (vl' vr (vl' vr (vn)))) (Ctr.mat 2 rg 15000000 1 rfl (by decide) (fun g2 => ctrX ((sx_c (atL (k := 15000000) rfl) (sx_n)).trans setL.symm) (ref15_number__e_ctr (dk_c (ni_n) (dk_n)) h fun u g3 h => ?_))))
    refine Wl.eqS (sy_c (sx_n) setL) ?_
    refine asZ (.sl 1 rg 15000000 g3 0 u.length) rfl (nZ (qZ (qZ (rZ (mvZ (.sl 1 rg 15000000 g3 0 u.length) rfl (wZ rg (o_lenR td25 rfl (wZ rg (o_faP td30 rfl rfl (by rw [sz28]; decide) rfl (wZ rg (o_loadB1 (atL (k := 1) rfl) sz28 ag28 rfl rfl (v := eL eDNode d.Nodes) rfl (wZ rg (o_len td28 rfl (wZ rg (o_neq rfl rfl (nZ ?_))))))))))))))))
    refine Vc.cond' rfl (fun hb6 => ?_) (fun hb6 => ?_)
    · replace h := h.1 hb6
      refine qZ (rZ (asZ (.int .i64 2) rfl (nZ ?_)))
      refine Vc.ret' ?_
      refine res_tmp (v := .int .i64 2) rfl (res_nil ?_)
      show Gives _ (.int .i64 2) _
      exact gives_out hrg (VW.refl _) (hQ _ h)
    replace h := h.2 hb6
    refine Vc.skip' ?_
    refine qZ (qZ (rZ (asZ (.int .i64 0) rfl (nZ ?_))))
    refine Vc.blk ?_
    obtain ⟨I, μ, h0, hI⟩ := h
    refine Vc.loop' (σ := (Int)) (fun y => I y) (fun y => μ y) (fun y => envOf [(6, .sl 1 rg 15000000 g3 0 u.length), (7, .int .i64 y)]) (fun y => stL S rg [(15000000, .arr 1 (List.map (AV.int .i64) u), g3)]) 0 (canon (fc vr (fc vr (fn))) (sc rfl (sn))) h0 (fun i1 h => ?_)
    replace h := hI i1 h
    show Vc _ _ _ _ (envOf [(6, .sl 1 rg 15000000 g3 0 u.length), (7, .int .i64 i1)]) (stL S rg [(15000000, .arr 1 (List.map (AV.int .i64) u), g3)])
    refine qZ (qZ (rZ (mvZ (.int .i64 i1) rfl (mvZ (.sl 1 rg 15000000 g3 0 u.length) rfl (wZ rg (o_lenR td25 rfl (wZ rg (o_lss rfl rfl (nZ ?_)))))))))
    refine Vc.cond' rfl (fun hb7 => ?_) (fun hb7 => ?_)
    · replace h := h.1 hb7
      refine Vc.skip' ?_
      refine qZ ?_
      refine Vc.blk ?_
      refine qZ (rZ (mvZ (.sl 1 rg 15000000 g3 0 u.length) rfl (mvZ (.int .i64 i1) rfl (wZ rg (o_idxR0 td25 sz3 (by decide) rfl rfl h.1 ?_)))))
      have hi := h.1
      replace h := h.2
      refine wZ rg (o_loadR1 (atL (k := 15000000) rfl) sz3 ag3 rfl (lt_of hi (by first | rfl | omega | (simp only [go_sem] <;> omega))) rfl (v := .int .i64 (at' u i1)) rfl (mvZ (.int .i64 i1) rfl (wZ rg (o_addG rfl rfl h.1 ?_))))
      replace h := h.2
      refine wZ rg (o_neq rfl rfl (nZ ?_))
      refine Vc.cond' rfl (fun hb8 => ?_) (fun hb8 => ?_)
      · replace h := h.1 hb8
        refine qZ (rZ (asZ (.int .i64 2) rfl (nZ ?_)))
        refine Vc.ret' ?_
        refine res_tmp (v := .int .i64 2) rfl (res_nil ?_)
        show Gives _ (.int .i64 2) _
        exact gives_out hrg (VW.refl _) (hQ _ h)
      replace h := h.2 hb8
      refine Vc.skip' ?_
      refine rZ ?_
      refine mvZ (.int .i64 i1) rfl (wZ rg (o_addG rfl rfl h.1 ?_))
      replace h := h.2
      refine asZ (.int .i64 (i1 + 1)) rfl (nZ ?_)
      exact ⟨(i1 + 1), (canon (fc vr (fc vr (fn))) (sc rfl (sn))), h⟩
    replace h := h.2 hb7
    refine Vc.exit' (exB_self ?_)
    refine qZ (rZ (asZ (.int .i64 0) rfl (nZ ?_)))
    refine Vc.ret' ?_
    refine res_tmp (v := .int .i64 0) rfl (res_nil ?_)
    show Gives _ (.int .i64 0) _
    exact gives_out hrg (VW.refl _) (hQ _ h)
  replace h := h.1 hb4
  refine Wl.guardF rfl rfl hb4 rfl ?_
  refine Wl.guardF rfl rfl hb4 rfl ?_
  refine Wl.guardF rfl rfl hb4 rfl ?_
  refine Wl.guardF rfl rfl hb4 rfl ?_
  refine Wl.guardF rfl rfl hb4 rfl ?_
  refine Wl.guardF rfl rfl hb4 rfl ?_
  refine wZ rg (o_pickT rfl hb4 (v := .bool true) rfl (nZ ?_))
  refine Vc.cond' rfl (fun _ => ?_) (fun hb => Bool.noConfusion hb)
  refine qZ (rZ (asZ (.int .i64 10) rfl (nZ ?_)))
  refine Vc.ret' ?_
  refine res_tmp (v := .int .i64 10) rfl (res_nil ?_)
  show Gives _ (.int .i64 10) _
  exact gives_out hrg (VW.refl _) (hQ _ h)
end Go.Proofs.Ytiamkdpljeemkaa
/- Walks of functions. Conditions: none. -/
namespace Go.Proofs.Ytiamkdpljeemkaa
open Go.Gg
set_option maxRecDepth 100000
theorem law17_large_ctr {d : GDiagram} {most : Int} {Q : Bool → Prop} {S : St} {R : AV → St → Prop} (h : law17_large_W d most Q) (hQ : ∀ r1, Q r1 → R (AV.bool r1) S) :
    Ctr Try.prog 35 [eDiagram d, AV.int .i64 most] S R := by
  unfold law17_large_W at h
  refine enterT Try.func35 rfl Try.ntmps35 Try.results35 (by kernel_rfl) (fun rg hrg => ?_)
  refine qZ (rZ (wZ rg (o_box (v := eDiagram d) rfl rfl (kk := 3) rfl (by decide) (fun g1 => (asZ (.bool false) rfl (nZ (qZ (rZ (wZ rg (o_faP td30 rfl rfl (by rw [sz28]; decide) rfl (wZ rg (o_loadB1 (atL (k := 2) rfl) sz28 ag28 rfl rfl (v := eL eDNode d.Nodes) rfl (wZ rg (o_len td28 rfl (wZ rg (o_gtr rfl rfl (mvZ (.bool (decide (300 < (d.Nodes.length : Int)))) rfl ?_)))))))))))))))))
  refine Wl.guard rfl rfl (fun hb => ?_) (fun hb => ?_)
  · replace h := h.1 hb
    refine wZ rg (o_faP td30 rfl rfl (by rw [sz28]; decide) rfl ?_)
    refine Wl.guardT rfl rfl hb ?_
    refine wZ rg (o_loadB1 (atL (k := 2) rfl) sz28 ag28 rfl rfl (v := eL eDNode d.Nodes) rfl ?_)
    refine Wl.guardT rfl rfl hb ?_
    refine wZ rg (o_len td28 rfl ?_)
    refine Wl.guardT rfl rfl hb ?_
    refine wZ rg (o_leq rfl rfl (wZ rg (o_pickT rfl hb (v := .bool (decide ((d.Nodes.length : Int) ≤ 4096))) rfl (mvZ (.bool (decide ((d.Nodes.length : Int) ≤ 4096))) rfl ?_))))
    refine Wl.guard rfl rfl (fun hb1 => ?_) (fun hb1 => ?_)
    · replace h := h.2 hb1
      refine wZ rg (o_faP td30 rfl rfl (by rw [sz25]; decide) rfl ?_)
      refine Wl.guardT rfl rfl hb1 ?_
      refine wZ rg (o_loadB1 (atL (k := 2) rfl) sz25 ag25 rfl rfl (v := eL (AV.int .i64) d.Order) rfl ?_)
      refine Wl.guardT rfl rfl hb1 ?_
      refine wZ rg (o_len td25 rfl ?_)
      refine Wl.guardT rfl rfl hb1 ?_
      refine mvZ (.int .i64 most) rfl ?_
      refine Wl.guardT rfl rfl hb1 ?_
      refine wZ rg (o_gtr rfl rfl ?_)
      refine Wl.guardT rfl rfl hb1 ?_
      refine mvZ (.bool (decide (most < (d.Order.length : Int)))) rfl ?_
      refine Wl.guard rfl rfl (fun hb2 => ?_) (fun hb2 => ?_)
      · replace h := h.1 hb2
        refine wZ rg (o_loadBA (atL (k := 2) rfl) sz30 (by decide) ag30 rfl rfl (v := eDiagram d) rfl ?_)
        refine Wl.guardT rfl rfl hb2 ?_
        refine wZ rg (o_call (us := [eDiagram d]) rfl (vl' vr (vn)) (ref15_Check_ctr h fun r h => ?_))
        refine Wl.guardT rfl rfl hb2 ?_
        refine wZ rg (o_eql rfl rfl ?_)
        refine Wl.guardT rfl rfl hb1 ?_
        refine wZ rg (o_pickT rfl hb2 (v := .bool (r == 0)) rfl (wZ rg (o_pickF rfl hb1 (v := .bool (r == 0)) rfl (mvZ (.bool (r == 0)) rfl ?_))))
        refine Wl.guard rfl rfl (fun hb3 => ?_) (fun hb3 => ?_)
        · replace h := h.2 hb3
          refine wZ rg (o_faP td30 rfl rfl (by rw [sz25]; decide) rfl ?_)
          refine Wl.guardT rfl rfl hb3 ?_
          refine wZ rg (o_loadB1 (atL (k := 2) rfl) sz25 ag25 rfl rfl (v := eL (AV.int .i64) d.Order) rfl ?_)
          refine Wl.guardT rfl rfl hb3 ?_
          refine wZ rg (o_len td25 rfl ?_)
          refine Wl.guardT rfl rfl hb3 ?_
          refine wZ rg (o_gtr rfl rfl (wZ rg (o_pickF rfl hb3 (v := .bool (decide (100 < (d.Order.length : Int)))) rfl (asZ (.bool (decide (100 < (d.Order.length : Int)))) rfl (nZ ?_)))))
          refine Vc.ret' ?_
          refine res_tmp (v := .bool (decide (100 < (d.Order.length : Int)))) rfl (res_nil ?_)
          show Gives _ (.bool (decide (100 < (d.Order.length : Int)))) _
          exact gives_out hrg (VW.refl _) (hQ _ h)
        replace h := h.1 hb3
        refine Wl.guardF rfl rfl hb3 rfl ?_
        refine Wl.guardF rfl rfl hb3 rfl ?_
        refine Wl.guardF rfl rfl hb3 rfl ?_
        refine wZ rg (o_pickT rfl hb3 (v := .bool true) rfl (asZ (.bool true) rfl (nZ ?_)))
        refine Vc.ret' ?_
        refine res_tmp (v := .bool true) rfl (res_nil ?_)
        show Gives _ (.bool true) _
        exact gives_out hrg (VW.refl _) (hQ _ h)
      replace h := h.2 hb2
      refine Wl.guardF rfl rfl hb2 rfl ?_
      refine Wl.guardF rfl rfl hb2 rfl ?_
      refine Wl.guardT rfl rfl hb1 ?_
      refine wZ rg (o_pickF rfl hb2 (v := .bool false) rfl (wZ rg (o_pickF rfl hb1 (v := .bool false) rfl (mvZ (.bool false) rfl ?_))))
      refine Wl.guardT rfl rfl rfl ?_
      refine wZ rg (o_faP td30 rfl rfl (by rw [sz25]; decide) rfl ?_)
      refine Wl.guardT rfl rfl rfl ?_
      refine wZ rg (o_loadB1 (atL (k := 2) rfl) sz25 ag25 rfl rfl (v := eL (AV.int .i64) d.Order) rfl ?_)
      refine Wl.guardT rfl rfl rfl ?_
      refine wZ rg (o_len td25 rfl ?_)
      refine Wl.guardT rfl rfl rfl ?_
      refine wZ rg (o_gtr rfl rfl (wZ rg (o_pickF rfl rfl (v := .bool (decide (100 < (d.Order.length : Int)))) rfl (asZ (.bool (decide (100 < (d.Order.length : Int)))) rfl (nZ ?_)))))
      refine Vc.ret' ?_
      refine res_tmp (v := .bool (decide (100 < (d.Order.length : Int)))) rfl (res_nil ?_)
      show Gives _ (.bool (decide (100 < (d.Order.length : Int)))) _
      exact gives_out hrg (VW.refl _) (hQ _ h)
    replace h := h.1 hb1
    refine Wl.guardF rfl rfl hb1 rfl ?_
    refine Wl.guardF rfl rfl hb1 rfl ?_
    refine Wl.guardF rfl rfl hb1 rfl ?_
    refine Wl.guardF rfl rfl hb1 rfl ?_
    refine Wl.guardF rfl rfl hb1 rfl ?_
    refine Wl.guardU rfl rfl ?_
    refine Wl.guardU rfl rfl ?_
    refine Wl.guardU rfl rfl ?_
    refine Wl.guardF rfl rfl hb1 rfl ?_
    refine wZ rg (o_pickT rfl hb1 (v := .bool true) rfl (mvZ (.bool true) rfl ?_))
    refine Wl.guardF rfl rfl rfl rfl ?_
    refine Wl.guardF rfl rfl rfl rfl ?_
    refine Wl.guardF rfl rfl rfl rfl ?_
    refine Wl.guardF rfl rfl rfl rfl ?_
    refine wZ rg (o_pickT rfl rfl (v := .bool true) rfl (asZ (.bool true) rfl (nZ ?_)))
    refine Vc.ret' ?_
    refine res_tmp (v := .bool true) rfl (res_nil ?_)
    show Gives _ (.bool true) _
    exact gives_out hrg (VW.refl _) (hQ _ h)
  replace h := h.2 hb
  refine Wl.guardF rfl rfl hb rfl ?_
  refine Wl.guardF rfl rfl hb rfl ?_
  refine Wl.guardF rfl rfl hb rfl ?_
  refine wZ rg (o_pickF rfl hb (v := .bool false) rfl (mvZ (.bool false) rfl ?_))
  refine Wl.guardT rfl rfl rfl ?_
  refine wZ rg (o_faP td30 rfl rfl (by rw [sz25]; decide) rfl ?_)
  refine Wl.guardT rfl rfl rfl ?_
  refine wZ rg (o_loadB1 (atL (k := 2) rfl) sz25 ag25 rfl rfl (v := eL (AV.int .i64) d.Order) rfl ?_)
  refine Wl.guardT rfl rfl rfl ?_
  refine wZ rg (o_len td25 rfl ?_)
  refine Wl.guardT rfl rfl rfl ?_
  refine mvZ (.int .i64 most) rfl ?_
  refine Wl.guardT rfl rfl rfl ?_
  refine wZ rg (o_gtr rfl rfl ?_)
  refine Wl.guardT rfl rfl rfl ?_
  refine mvZ (.bool (decide (most < (d.Order.length : Int)))) rfl ?_
  refine Wl.guard rfl rfl (fun hb4 => ?_) (fun hb4 => ?_)
  · replace h := h.1 hb4
    refine wZ rg (o_loadBA (atL (k := 2) rfl) sz30 (by decide) ag30 rfl rfl (v := eDiagram d) rfl ?_)
    refine Wl.guardT rfl rfl hb4 ?_
    refine wZ rg (o_call (us := [eDiagram d]) rfl (vl' vr (vn)) (ref15_Check_ctr h fun r1 h => ?_))
    refine Wl.guardT rfl rfl hb4 ?_
    refine wZ rg (o_eql rfl rfl ?_)
    refine Wl.guardT rfl rfl rfl ?_
    refine wZ rg (o_pickT rfl hb4 (v := .bool (r1 == 0)) rfl (wZ rg (o_pickF rfl rfl (v := .bool (r1 == 0)) rfl (mvZ (.bool (r1 == 0)) rfl ?_))))
    refine Wl.guard rfl rfl (fun hb5 => ?_) (fun hb5 => ?_)
    · replace h := h.2 hb5
      refine wZ rg (o_faP td30 rfl rfl (by rw [sz25]; decide) rfl ?_)
      refine Wl.guardT rfl rfl hb5 ?_
      refine wZ rg (o_loadB1 (atL (k := 2) rfl) sz25 ag25 rfl rfl (v := eL (AV.int .i64) d.Order) rfl ?_)
      refine Wl.guardT rfl rfl hb5 ?_
      refine wZ rg (o_len td25 rfl ?_)
      refine Wl.guardT rfl rfl hb5 ?_
      refine wZ rg (o_gtr rfl rfl (wZ rg (o_pickF rfl hb5 (v := .bool (decide (100 < (d.Order.length : Int)))) rfl (asZ (.bool (decide (100 < (d.Order.length : Int)))) rfl (nZ ?_)))))
      refine Vc.ret' ?_
      refine res_tmp (v := .bool (decide (100 < (d.Order.length : Int)))) rfl (res_nil ?_)
      show Gives _ (.bool (decide (100 < (d.Order.length : Int)))) _
      exact gives_out hrg (VW.refl _) (hQ _ h)
    replace h := h.1 hb5
    refine Wl.guardF rfl rfl hb5 rfl ?_
    refine Wl.guardF rfl rfl hb5 rfl ?_
    refine Wl.guardF rfl rfl hb5 rfl ?_
    refine wZ rg (o_pickT rfl hb5 (v := .bool true) rfl (asZ (.bool true) rfl (nZ ?_)))
    refine Vc.ret' ?_
    refine res_tmp (v := .bool true) rfl (res_nil ?_)
    show Gives _ (.bool true) _
    exact gives_out hrg (VW.refl _) (hQ _ h)
  replace h := h.2 hb4
  refine Wl.guardF rfl rfl hb4 rfl ?_
  refine Wl.guardF rfl rfl hb4 rfl ?_
  refine Wl.guardT rfl rfl rfl ?_
  refine wZ rg (o_pickF rfl hb4 (v := .bool false) rfl (wZ rg (o_pickF rfl rfl (v := .bool false) rfl (mvZ (.bool false) rfl ?_))))
  refine Wl.guardT rfl rfl rfl ?_
  refine wZ rg (o_faP td30 rfl rfl (by rw [sz25]; decide) rfl ?_)
  refine Wl.guardT rfl rfl rfl ?_
  refine wZ rg (o_loadB1 (atL (k := 2) rfl) sz25 ag25 rfl rfl (v := eL (AV.int .i64) d.Order) rfl ?_)
  refine Wl.guardT rfl rfl rfl ?_
  refine wZ rg (o_len td25 rfl ?_)
  refine Wl.guardT rfl rfl rfl ?_
  refine wZ rg (o_gtr rfl rfl (wZ rg (o_pickF rfl rfl (v := .bool (decide (100 < (d.Order.length : Int)))) rfl (asZ (.bool (decide (100 < (d.Order.length : Int)))) rfl (nZ ?_)))))
  refine Vc.ret' ?_
  refine res_tmp (v := .bool (decide (100 < (d.Order.length : Int)))) rfl (res_nil ?_)
  show Gives _ (.bool (decide (100 < (d.Order.length : Int)))) _
  exact gives_out hrg (VW.refl _) (hQ _ h)
end Go.Proofs.Ytiamkdpljeemkaa
