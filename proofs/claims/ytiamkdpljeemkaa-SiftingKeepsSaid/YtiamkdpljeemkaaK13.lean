/- Walks of functions. Conditions: none. -/
import Derived.Test.YtiamkdpljeemkaaWa
import Derived.Test.YtiamkdpljeemkaaGgTy
import Derived.Test.YtiamkdpljeemkaaK2
/- Walks of functions. Conditions: none. -/
namespace Go.Proofs.Ytiamkdpljeemkaa
open Go.Gg
set_option maxRecDepth 100000
theorem diagram_Value_ctr {d : GDiagram} {state : Int} {Q : Bool → Option Int → Prop} {S : St} {R : AV → St → Prop} (h : diagram_Value_W d state Q) (hQ : ∀ r1 r2, Q r1 r2 → R (.tuple [AV.bool r1, eErr 73 r2]) S) :
    Ctr Try.prog 23 [eDiagram d, AV.int .i64 state] S R := by
  unfold diagram_Value_W at h
  refine enterT Try.func23 rfl Try.ntmps23 Try.results23 (by kernel_rfl) (fun rg hrg => ?_)
  refine qZ (rZ (wZ rg (o_box (v := eDiagram d) rfl rfl (kk := 3) rfl (by decide) (fun g1 => (asZ (.bool false) rfl (asZ .niface rfl (nZ (qZ (qZ (rZ (wZ rg (o_loadBA (atL (k := 2) rfl) sz30 (by decide) ag30 rfl rfl (v := eDiagram d) rfl (wZ rg (o_call (us := [eDiagram d]) rfl (vl' vr (vn)) (diagram_Check_ctr h fun err h => (asZ (eErr 73 err) rfl (nZ (qZ (rZ (mvZ (eErr 73 err) rfl ?_))))))))))))))))))))
  refine wZ rg (o_isnon td32 (E := 73) rfl rfl rfl (nZ ?_))
  refine Vc.cond' rfl (fun hb => ?_) (fun hb => ?_)
  · replace h := h.1 hb
    refine qZ (rZ (mvZ (eErr 73 err) rfl (asZ (.bool false) rfl (asZ (eErr 73 err) rfl (nZ ?_)))))
    refine Vc.ret' ?_
    refine res_tmp (v := .bool false) rfl (res_tmp (v := eErr 73 err) rfl (res_nil ?_))
    show Gives _ (.tuple [.bool false, eErr 73 err]) _
    exact gives_out hrg (VW.tupL (vl' vr (vl' vr (vn)))) (hQ _ _ h)
  replace h := h.2 hb
  refine Vc.skip' ?_
  refine qZ ?_
  obtain ⟨J, h, hJ⟩ := h
  refine Vc.join' (σ := ((Bool) × (Nat))) (fun y => J y.1) (fun y => envOf [(1, .int .i64 state), (2, .ptr rg 2 y.2 0 0), (23, .bool y.1)]) (fun y => stL S rg [(2, .arr 3 [eDiagram d], y.2)]) (fun y h => ?_) ?_
  · obtain ⟨x, g2⟩ := y
    replace h := hJ x h
    show Vc _ _ _ _ (envOf [(1, .int .i64 state), (2, .ptr rg 2 g2 0 0), (23, .bool x)]) (stL S rg [(2, .arr 3 [eDiagram d], g2)])
    refine Vc.cond' rfl (fun hb1 => ?_) (fun hb1 => ?_)
    · replace h := h.1 hb1
      refine qZ (rZ (wZ rg (o_iface (by rw [td73]; trivial) (v := .int .i64 3) rfl (asZ (.bool false) rfl (asZ (.iface 73 (.int .i64 3)) rfl (nZ ?_))))))
      refine Vc.ret' ?_
      refine res_tmp (v := .bool false) rfl (res_tmp (v := .iface 73 (.int .i64 3)) rfl (res_nil ?_))
      show Gives _ (.tuple [.bool false, .iface 73 (.int .i64 3)]) _
      exact gives_out hrg (VW.tupL (vl' vr (vl' vr (vn)))) (hQ _ _ h)
    replace h := h.2 hb1
    refine Vc.skip' ?_
    refine qZ (rZ (wZ rg (o_faP td30 rfl rfl (by rw [sz3]; decide) rfl (wZ rg (o_loadB1 (atL (k := 2) rfl) sz3 ag3 rfl rfl (v := .int .i64 d.Root) rfl (asZ (.int .i64 d.Root) rfl (nZ (qZ ?_))))))))
    refine Vc.blk ?_
    obtain ⟨I, μ, h0, hI⟩ := h
    refine Vc.loop' (σ := (Int)) (fun y => I y) (fun y => μ y) (fun y => envOf [(1, .int .i64 state), (2, .ptr rg 2 g2 0 0), (7, .int .i64 y)]) (fun y => stL S rg [(2, .arr 3 [eDiagram d], g2)]) d.Root (canon (fc vr (fc vr (fc vr (fn)))) (sc rfl (sn))) h0 (fun r h => ?_)
    replace h := hI r h
    show Vc _ _ _ _ (envOf [(1, .int .i64 state), (2, .ptr rg 2 g2 0 0), (7, .int .i64 r)]) (stL S rg [(2, .arr 3 [eDiagram d], g2)])
    refine qZ (qZ (rZ (mvZ (.int .i64 r) rfl (wZ rg (o_geq rfl rfl (nZ ?_))))))
    refine Vc.cond' rfl (fun hb2 => ?_) (fun hb2 => ?_)
    · replace h := h.1 hb2
      refine Vc.skip' ?_
      refine Vc.blk ?_
      refine qZ (rZ (wZ rg (o_faP td30 rfl rfl (by rw [sz28]; decide) rfl (wZ rg (o_loadB1 (atL (k := 2) rfl) sz28 ag28 rfl rfl (v := eL eDNode d.Nodes) rfl (mvZ (.int .i64 r) rfl (wZ rg (o_subG rfl rfl h.1 ?_))))))))
      replace h := h.2
      refine wZ rg (o_idxL td28 sz97 (by decide) (fun _ => rfl) rfl rfl h.1 ?_)
      replace h := h.2
      refine wZ rg (o_loadIA sz97 (by decide) ag97 rfl rfl (v := eDNode (at' d.Nodes (r - 2))) rfl (wZ rg (o_alloc zav97 ok97 (kk := 3) rfl (fun g3 => (wZ rg (o_storeB (atL (k := 8) rfl) sz97 (by decide) rfl (w := eDNode (at' d.Nodes (r - 2))) rfl rfl rfl (v := eDNode (at' d.Nodes (r - 2))) rfl setL (nZ (qZ (rZ (mvZ (.int .i64 state) rfl (wZ rg (o_faP td97 rfl rfl (by rw [sz3]; decide) rfl ?_))))))))))))
      refine wZ rg (o_loadB1 (atL (k := 8) rfl) sz3 ag3 rfl rfl (v := .int .i64 ((at' d.Nodes (r - 2)).Var)) rfl (wZ rg (o_shr rfl rfl h.1 ?_)))
      replace h := h.2
      refine wZ rg (o_and rfl rfl (wZ rg (o_eql rfl rfl (nZ ?_))))
      refine Vc.cond' rfl (fun hb3 => ?_) (fun hb3 => ?_)
      · replace h := h.1 hb3
        refine rZ ?_
        refine wZ rg (o_faP td97 rfl rfl (by rw [sz3]; decide) rfl (wZ rg (o_loadB1 (atL (k := 8) rfl) sz3 ag3 rfl rfl (v := .int .i64 ((at' d.Nodes (r - 2)).Hi)) rfl (asZ (.int .i64 ((at' d.Nodes (r - 2)).Hi)) rfl (nZ ?_)))))
        exact ⟨(at' d.Nodes (r - 2)).Hi, (canon (fc vr (fc vr (fc vr (fn)))) (sc rfl (sn))), h⟩
      replace h := h.2 hb3
      refine rZ ?_
      refine wZ rg (o_faP td97 rfl rfl (by rw [sz3]; decide) rfl (wZ rg (o_loadB1 (atL (k := 8) rfl) sz3 ag3 rfl rfl (v := .int .i64 ((at' d.Nodes (r - 2)).Lo)) rfl (asZ (.int .i64 ((at' d.Nodes (r - 2)).Lo)) rfl (nZ ?_)))))
      exact ⟨(at' d.Nodes (r - 2)).Lo, (canon (fc vr (fc vr (fc vr (fn)))) (sc rfl (sn))), h⟩
    replace h := h.2 hb2
    refine Vc.exit' (exB_self ?_)
    refine qZ (rZ (mvZ (.int .i64 r) rfl (wZ rg (o_eql rfl rfl (asZ (.bool (r == 1)) rfl (asZ .niface rfl (nZ ?_)))))))
    refine Vc.ret' ?_
    refine res_tmp (v := .bool (r == 1)) rfl (res_tmp (v := .niface) rfl (res_nil ?_))
    show Gives _ (.tuple [.bool (r == 1), .niface]) _
    exact gives_out hrg (VW.tupL (vl' vr (vl' vr (vn)))) (hQ _ _ h)
  refine rZ ?_
  refine mvZ (.int .i64 state) rfl (wZ rg (o_lss rfl rfl (mvZ (.bool (decide (state < 0))) rfl ?_)))
  refine Wl.guard rfl rfl (fun hb4 => ?_) (fun hb4 => ?_)
  · replace h := h.2 hb4
    refine mvZ (.int .i64 state) rfl ?_
    refine Wl.guardT rfl rfl hb4 ?_
    refine wZ rg (o_faP td30 rfl rfl (by rw [sz25]; decide) rfl ?_)
    refine Wl.guardT rfl rfl hb4 ?_
    refine wZ rg (o_loadB1 (atL (k := 2) rfl) sz25 ag25 rfl rfl (v := eL (AV.int .i64) d.Order) rfl ?_)
    refine Wl.guardT rfl rfl hb4 ?_
    refine wZ rg (o_len td25 rfl ?_)
    refine Wl.guardT rfl rfl hb4 ?_
    refine wZ rg (o_shlG rfl rfl h.1 ?_)
    replace h := h.2
    refine Wl.guardT rfl rfl hb4 ?_
    refine wZ rg (o_geq rfl rfl (wZ rg (o_pickF rfl hb4 (v := .bool (decide ((1 * 2 ^ (Int.toNat (d.Order.length : Int))) ≤ state))) rfl (nZ ?_))))
    exact ⟨((decide ((1 * 2 ^ (Int.toNat (d.Order.length : Int))) ≤ state)), g1), (canon (fc vr (fc vr (fc vr (fn)))) (sc rfl (sn))), h⟩
  replace h := h.1 hb4
  refine Wl.guardF rfl rfl hb4 rfl ?_
  refine Wl.guardF rfl rfl hb4 rfl ?_
  refine Wl.guardF rfl rfl hb4 rfl ?_
  refine Wl.guardF rfl rfl hb4 rfl ?_
  refine Wl.guardF rfl rfl hb4 rfl ?_
  refine wZ rg (o_pickT rfl hb4 (v := .bool true) rfl (nZ ?_))
  exact ⟨(true, g1), (canon (fc vr (fc vr (fc vr (fn)))) (sc rfl (sn))), h⟩
end Go.Proofs.Ytiamkdpljeemkaa
/- Walks of functions. Conditions: none. -/
namespace Go.Proofs.Ytiamkdpljeemkaa
open Go.Gg
set_option maxRecDepth 100000
theorem diagram_Support_ctr {d : GDiagram} {Q : Int → Option Int → Prop} {S : St} {R : AV → St → Prop} (h : diagram_Support_W d Q) (hQ : ∀ r1 r2, Q r1 r2 → R (.tuple [AV.int .i64 r1, eErr 73 r2]) S) :
    Ctr Try.prog 30 [eDiagram d] S R := by
  unfold diagram_Support_W at h
  refine enterT Try.func30 rfl Try.ntmps30 Try.results30 (by kernel_rfl) (fun rg hrg => ?_)
  refine qZ (rZ (wZ rg (o_box (v := eDiagram d) rfl rfl (kk := 3) rfl (by decide) (fun g1 => (asZ (.int .i64 0) rfl (asZ .niface rfl (nZ (qZ (qZ (rZ (wZ rg (o_loadBA (atL (k := 1) rfl) sz30 (by decide) ag30 rfl rfl (v := eDiagram d) rfl (wZ rg (o_call (us := [eDiagram d]) rfl (vl' vr (vn)) (diagram_Check_ctr h fun err h => (asZ (eErr 73 err) rfl (nZ (qZ (rZ (mvZ (eErr 73 err) rfl ?_))))))))))))))))))))
  refine wZ rg (o_isnon td32 (E := 73) rfl rfl rfl (nZ ?_))
  refine Vc.cond' rfl (fun hb => ?_) (fun hb => ?_)
  · replace h := h.1 hb
    refine qZ (rZ (mvZ (eErr 73 err) rfl (asZ (.int .i64 0) rfl (asZ (eErr 73 err) rfl (nZ ?_)))))
    refine Vc.ret' ?_
    refine res_tmp (v := .int .i64 0) rfl (res_tmp (v := eErr 73 err) rfl (res_nil ?_))
    show Gives _ (.tuple [.int .i64 0, eErr 73 err]) _
    exact gives_out hrg (VW.tupL (vl' vr (vl' vr (vn)))) (hQ _ _ h)
  replace h := h.2 hb
  refine Vc.skip' ?_
  refine qZ (rZ (asZ (.int .i64 0) rfl (nZ (qZ (qZ (rZ (wZ rg (o_faP td30 rfl rfl (by rw [sz28]; decide) rfl (wZ rg (o_loadB1 (atL (k := 1) rfl) sz28 ag28 rfl rfl (v := eL eDNode d.Nodes) rfl (wZ rg (o_len td28 rfl (mvZ (.int .i64 0) rfl (nZ ?_))))))))))))))
  refine Vc.blk ?_
  obtain ⟨I, μ, h0, hI⟩ := h
  refine Vc.loop' (σ := (Int × Int)) (fun y => I y) (fun y => μ y) (fun y => envOf [(5, .int .i64 y.1), (14, eL eDNode d.Nodes), (15, .int .i64 (d.Nodes.length : Int)), (16, .int .i64 y.2)]) (fun y => stL S rg []) (0, 0) (canon (fc vr (fc vr (fc vr (fc vr (fn))))) (sn)) h0 (fun y h => ?_)
  obtain ⟨out, x⟩ := y
  replace h := hI (out, x) h
  show Vc _ _ _ _ (envOf [(5, .int .i64 out), (14, eL eDNode d.Nodes), (15, .int .i64 (d.Nodes.length : Int)), (16, .int .i64 x)]) (stL S rg [])
  refine qZ (rZ (wZ rg (o_lss rfl rfl (nZ (qZ ?_)))))
  refine Vc.cond' rfl (fun hb1 => ?_) (fun hb1 => ?_)
  · replace h := h.1 hb1
    refine Vc.skip' ?_
    refine qZ ?_
    refine Vc.blk ?_
    refine qZ (rZ (wZ rg (o_idxL td28 sz97 (by decide) (fun _ => rfl) rfl rfl h.1 ?_)))
    replace h := h.2
    refine wZ rg (o_loadIA sz97 (by decide) ag97 rfl rfl (v := eDNode (at' d.Nodes x)) rfl (wZ rg (o_alloc zav97 ok97 (kk := 3) rfl (fun g2 => (wZ rg (o_storeB (atL (k := 7) rfl) sz97 (by decide) rfl (w := eDNode (at' d.Nodes x)) rfl rfl rfl (v := eDNode (at' d.Nodes x)) rfl setL (nZ (rZ (mvZ (.int .i64 out) rfl (wZ rg (o_faP td97 rfl rfl (by rw [sz3]; decide) rfl ?_)))))))))))
    refine wZ rg (o_loadB1 (atL (k := 7) rfl) sz3 ag3 rfl rfl (v := .int .i64 ((at' d.Nodes x).Var)) rfl (wZ rg (o_shlG rfl rfl h.1 ?_)))
    replace h := h.2
    refine wZ rg (o_or rfl rfl ?_)
    obtain ⟨out1, hs⟩ : ∃ qz : Int, qz = (bits .or .i64 out (1 * 2 ^ (Int.toNat ((at' d.Nodes x).Var)))) := ⟨_, rfl⟩
    replace h := h out1 hs
    refine wZ rg (o_assign (v := .int .i64 out1) (by subst hs; rfl) (nZ (rZ (wZ rg (o_addG rfl rfl h.1 ?_)))))
    replace h := h.2
    refine mvZ (.int .i64 (x + 1)) rfl (nZ ?_)
    exact ⟨(out1, (x + 1)), (canon (fc vr (fc vr (fc vr (fc vr (fn))))) (sn)), h⟩
  replace h := h.2 hb1
  refine Vc.exit' (exB_self ?_)
  refine qZ (rZ (mvZ (.int .i64 out) rfl (asZ (.int .i64 out) rfl (asZ .niface rfl (nZ ?_)))))
  refine Vc.ret' ?_
  refine res_tmp (v := .int .i64 out) rfl (res_tmp (v := .niface) rfl (res_nil ?_))
  show Gives _ (.tuple [.int .i64 out, .niface]) _
  exact gives_out hrg (VW.tupL (vl' vr (vl' vr (vn)))) (hQ _ _ h)
end Go.Proofs.Ytiamkdpljeemkaa
