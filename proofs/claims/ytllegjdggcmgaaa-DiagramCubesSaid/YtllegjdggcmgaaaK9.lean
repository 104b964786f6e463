/- Walks of functions. Conditions: none. -/
import Derived.Test.YtllegjdggcmgaaaWa
import Derived.Test.YtllegjdggcmgaaaGgTy
import Derived.Test.YtllegjdggcmgaaaGd
import Derived.Test.YtllegjdggcmgaaaK1
/- Walks of functions. Conditions: none. -/
namespace Go.Proofs.Ytllegjdggcmgaaa
open Go.Gg
set_option maxRecDepth 100000
theorem base_Cubes_ctr {a : List GCube} {b : List GCube} {Q : Bool → Prop} {S : St} {R : AV → St → Prop} (h : base_Cubes_W a b Q) (hQ : ∀ r1, Q r1 → R (AV.bool r1) S) :
    Ctr Try.prog 84 [eL eCube a, eL eCube b] S R := by
  unfold base_Cubes_W at h
  refine enterT Try.func84 rfl Try.ntmps84 Try.results84 (by kernel_rfl) (fun rg hrg => ?_)
  refine qZ (rZ (asZ (.bool false) rfl (nZ (qZ (qZ (rZ (mvZ (eL eCube a) rfl (wZ rg (o_len td84 rfl (mvZ (eL eCube b) rfl (wZ rg (o_len td84 rfl (wZ rg (o_neq rfl rfl (nZ ?_)))))))))))))))
  refine Vc.cond' rfl (fun hb => ?_) (fun hb => ?_)
  · replace h := h.1 hb
    refine qZ (rZ (asZ (.bool false) rfl (nZ ?_)))
    refine Vc.ret' ?_
    refine res_tmp (v := .bool false) rfl (res_nil ?_)
    show Gives _ (.bool false) _
    exact gives_out hrg (VW.refl _) (hQ _ h)
  replace h := h.2 hb
  refine Vc.skip' ?_
  refine qZ (qZ (rZ (mvZ (eL eCube a) rfl (wZ rg (o_len td84 rfl (mvZ (.int .i64 0) rfl (nZ ?_)))))))
  refine Vc.blk ?_
  obtain ⟨I, μ, h0, hI⟩ := h
  refine Vc.loop' (σ := (Int)) (fun y => I y) (fun y => μ y) (fun y => envOf [(0, eL eCube a), (1, eL eCube b), (12, .int .i64 (a.length : Int)), (13, .int .i64 y)]) (fun y => stL S rg []) 0 (canon (fc vr (fc vr (fc vr (fc vr (fn))))) (sn)) h0 (fun x h => ?_)
  replace h := hI x h
  show Vc _ _ _ _ (envOf [(0, eL eCube a), (1, eL eCube b), (12, .int .i64 (a.length : Int)), (13, .int .i64 x)]) (stL S rg [])
  refine qZ (rZ (wZ rg (o_lss rfl rfl (nZ (qZ ?_)))))
  refine Vc.cond' rfl (fun hb1 => ?_) (fun hb1 => ?_)
  · replace h := h.1 hb1
    refine Vc.skip' ?_
    refine qZ ?_
    refine Vc.blk ?_
    refine qZ (rZ (mvZ (.int .i64 x) rfl (asZ (.int .i64 x) rfl (nZ (qZ ?_)))))
    have hg := h.1
    replace h := h.2
    have hg1 := h.1
    replace h := h.2
    refine Vc.drawn' mixed rg (fun _ => jcr2) (by kernel_rfl) ?_
    refine dP rfl rfl (o_move (v := eL eCube a) rfl (dP rfl rfl (o_move (v := .int .i64 x) rfl (dP rfl rfl (o_idxL td84 sz94 (by decide) (fun _ => rfl) rfl rfl hg (dP rfl rfl (o_loadIA sz94 (by decide) ag94 rfl rfl (v := eCube (at' a x)) rfl (dP rfl rfl (o_move (v := eL eCube b) rfl (dP rfl rfl (o_move (v := .int .i64 x) rfl (dP rfl rfl (o_idxL td84 sz94 (by decide) (fun _ => rfl) rfl rfl hg1 ?_)))))))))))))
    refine dP rfl rfl (o_loadIA sz94 (by decide) ag94 rfl rfl (v := eCube (at' b x)) rfl (dP rfl rfl (o_neqS ksh94 rfl rfl rfl rfl (dN ?_))))
    refine Vc.cond' rfl (fun hb2 => ?_) (fun hb2 => ?_)
    · replace h := h.1 hb2
      refine qZ (rZ (asZ (.bool false) rfl (nZ ?_)))
      refine Vc.ret' ?_
      refine res_tmp (v := .bool false) rfl (res_nil ?_)
      show Gives _ (.bool false) _
      exact gives_out hrg (VW.refl _) (hQ _ h)
    replace h := h.2 hb2
    refine Vc.skip' ?_
    refine rZ ?_
    refine wZ rg (o_addG rfl rfl h.1 ?_)
    replace h := h.2
    refine mvZ (.int .i64 (x + 1)) rfl (nZ ?_)
    exact ⟨(x + 1), (canon (fc vr (fc vr (fc vr (fc vr (fn))))) (sn)), h⟩
  replace h := h.2 hb1
  refine Vc.exit' (exB_self ?_)
  refine qZ (rZ (asZ (.bool true) rfl (nZ ?_)))
  refine Vc.ret' ?_
  refine res_tmp (v := .bool true) rfl (res_nil ?_)
  show Gives _ (.bool true) _
  exact gives_out hrg (VW.refl _) (hQ _ h)
end Go.Proofs.Ytllegjdggcmgaaa
/- Walks of functions. Conditions: none. -/
namespace Go.Proofs.Ytllegjdggcmgaaa
open Go.Gg
set_option maxRecDepth 100000
theorem cube_mask_ctr {n : Int} {Q : Bool → Prop} {S : St} {R : AV → St → Prop} (h : cube_mask_W n Q) (hQ : ∀ r1, Q r1 → R (AV.bool r1) S) :
    Ctr Try.prog 237 [AV.int .i64 n] S R := by
  unfold cube_mask_W at h
  refine enterT Try.func237 rfl Try.ntmps237 Try.results237 (by kernel_rfl) (fun rg hrg => ?_)
  refine qZ (rZ (asZ (.bool false) rfl (nZ (qZ (rZ (mvZ (.int .i64 n) rfl (wZ rg (o_geq rfl rfl (mvZ (.bool (decide (0 ≤ n))) rfl ?_)))))))))
  refine Wl.guard rfl rfl (fun hb => ?_) (fun hb => ?_)
  · replace h := h.1 hb
    refine mvZ (.int .i64 n) rfl ?_
    refine Wl.guardT rfl rfl hb ?_
    refine wZ rg (o_lss rfl rfl (wZ rg (o_pickT rfl hb (v := .bool (decide (n < 16777216))) rfl (asZ (.bool (decide (n < 16777216))) rfl (nZ ?_)))))
    refine Vc.ret' ?_
    refine res_tmp (v := .bool (decide (n < 16777216))) rfl (res_nil ?_)
    show Gives _ (.bool (decide (n < 16777216))) _
    exact gives_out hrg (VW.refl _) (hQ _ h)
  replace h := h.2 hb
  refine Wl.guardF rfl rfl hb rfl ?_
  refine wZ rg (o_pickF rfl hb (v := .bool false) rfl (asZ (.bool false) rfl (nZ ?_)))
  refine Vc.ret' ?_
  refine res_tmp (v := .bool false) rfl (res_nil ?_)
  show Gives _ (.bool false) _
  exact gives_out hrg (VW.refl _) (hQ _ h)
theorem cube_Check_ctr {c : GCube} {Q : Option Int → Prop} {S : St} {R : AV → St → Prop} (h : cube_Check_W c Q) (hQ : ∀ r1, Q r1 → R (eErr 83 r1) S) :
    Ctr Try.prog 222 [eCube c] S R := by
  unfold cube_Check_W at h
  refine enterT Try.func222 rfl Try.ntmps222 Try.results222 (by kernel_rfl) (fun rg hrg => ?_)
  refine qZ (rZ (wZ rg (o_box (v := eCube c) rfl rfl (kk := 2) rfl (by decide) (fun g1 => (asZ .niface rfl (nZ (qZ ?_)))))))
  refine Vc.blk ?_
  obtain ⟨J, h, hJ⟩ := h
  refine Vc.join' (σ := ((Bool) × (Nat))) (fun y => J y.1) (fun y => envOf [(1, .ptr rg 1 y.2 0 0), (3, .bool y.1)]) (fun y => stL S rg [(1, .arr 2 [eCube c], y.2)]) (fun y h => ?_) ?_
  · obtain ⟨x, g2⟩ := y
    replace h := hJ x h
    show Vc _ _ _ _ (envOf [(1, .ptr rg 1 g2 0 0), (3, .bool x)]) (stL S rg [(1, .arr 2 [eCube c], g2)])
    refine Vc.cond' rfl (fun hb => ?_) (fun hb => ?_)
    · replace h := h.1 hb
      refine qZ (rZ (wZ rg (o_iface (by rw [td83]; trivial) (v := .int .i64 3) rfl (asZ (.iface 83 (.int .i64 3)) rfl (nZ ?_)))))
      refine Vc.ret' ?_
      refine res_tmp (v := .iface 83 (.int .i64 3)) rfl (res_nil ?_)
      show Gives _ (.iface 83 (.int .i64 3)) _
      exact gives_out hrg (VW.refl _) (hQ _ h)
    replace h := h.2 hb
    refine qZ (rZ (wZ rg (o_faP td94 rfl rfl (by rw [sz3]; decide) rfl (wZ rg (o_loadB1 (atL (k := 1) rfl) sz3 ag3 rfl rfl (v := .int .i64 c.Yes) rfl (wZ rg (o_faP td94 rfl rfl (by rw [sz3]; decide) rfl (wZ rg (o_loadB1 (atL (k := 1) rfl) sz3 ag3 rfl rfl (v := .int .i64 c.No) rfl (wZ rg (o_and rfl rfl (wZ rg (o_neq rfl rfl (asZ (.bool ((bits .and .i64 c.Yes c.No) != 0)) rfl (nZ ?_)))))))))))))))
    refine Vc.cond' rfl (fun hb1 => ?_) (fun hb1 => ?_)
    · replace h := h.1 hb1
      refine qZ (rZ (wZ rg (o_iface (by rw [td83]; trivial) (v := .int .i64 6) rfl (asZ (.iface 83 (.int .i64 6)) rfl (nZ ?_)))))
      refine Vc.ret' ?_
      refine res_tmp (v := .iface 83 (.int .i64 6)) rfl (res_nil ?_)
      show Gives _ (.iface 83 (.int .i64 6)) _
      exact gives_out hrg (VW.refl _) (hQ _ h)
    replace h := h.2 hb1
    refine Vc.skip' ?_
    refine qZ (rZ (asZ .niface rfl (nZ ?_)))
    refine Vc.ret' ?_
    refine res_tmp (v := .niface) rfl (res_nil ?_)
    show Gives _ .niface _
    exact gives_out hrg (VW.refl _) (hQ _ h)
  refine rZ ?_
  refine wZ rg (o_faP td94 rfl rfl (by rw [sz3]; decide) rfl (wZ rg (o_loadB1 (atL (k := 1) rfl) sz3 ag3 rfl rfl (v := .int .i64 c.Yes) rfl (wZ rg (o_call (us := [AV.int .i64 c.Yes]) rfl (vl' vr (vn)) (cube_mask_ctr h fun r h => (wZ rg (o_not rfl (mvZ (.bool (!r)) rfl ?_)))))))))
  refine Wl.guard rfl rfl (fun hb2 => ?_) (fun hb2 => ?_)
  · replace h := h.2 hb2
    refine wZ rg (o_faP td94 rfl rfl (by rw [sz3]; decide) rfl ?_)
    refine Wl.guardT rfl rfl hb2 ?_
    refine wZ rg (o_loadB1 (atL (k := 1) rfl) sz3 ag3 rfl rfl (v := .int .i64 c.No) rfl ?_)
    refine Wl.guardT rfl rfl hb2 ?_
    refine wZ rg (o_call (us := [AV.int .i64 c.No]) rfl (vl' vr (vn)) (cube_mask_ctr h fun r1 h => ?_))
    refine Wl.guardT rfl rfl hb2 ?_
    refine wZ rg (o_not rfl (wZ rg (o_pickF rfl hb2 (v := .bool (!r1)) rfl (asZ (.bool (!r1)) rfl (nZ ?_)))))
    exact ⟨((!r1), g1), (canon (fc vr (fc vr (fn))) (sc rfl (sn))), h⟩
  replace h := h.1 hb2
  refine Wl.guardF rfl rfl hb2 rfl ?_
  refine Wl.guardF rfl rfl hb2 rfl ?_
  refine Wl.guardF rfl rfl hb2 rfl ?_
  refine wZ rg (o_pickT rfl hb2 (v := .bool true) rfl (asZ (.bool true) rfl (nZ ?_)))
  exact ⟨(true, g1), (canon (fc vr (fc vr (fn))) (sc rfl (sn))), h⟩
theorem cube_checkAll_ctr {list : List GCube} {Q : Option Int → Prop} {S : St} {R : AV → St → Prop} (h : cube_checkAll_W list Q) (hQ : ∀ r1, Q r1 → R (eErr 83 r1) S) :
    Ctr Try.prog 199 [eL eCube list] S R := by
  unfold cube_checkAll_W at h
  refine enterT Try.func199 rfl Try.ntmps199 Try.results199 (by kernel_rfl) (fun rg hrg => ?_)
  refine qZ (rZ (asZ .niface rfl (nZ (qZ (qZ (rZ (mvZ (eL eCube list) rfl (wZ rg (o_len td84 rfl (mvZ (.int .i64 0) rfl (nZ ?_)))))))))))
  refine Vc.blk ?_
  obtain ⟨I, μ, h0, hI⟩ := h
  refine Vc.loop' (σ := (Int)) (fun y => I y) (fun y => μ y) (fun y => envOf [(6, eL eCube list), (7, .int .i64 (list.length : Int)), (8, .int .i64 y)]) (fun y => stL S rg []) 0 (canon (fc vr (fc vr (fc vr (fn)))) (sn)) h0 (fun x h => ?_)
  replace h := hI x h
  show Vc _ _ _ _ (envOf [(6, eL eCube list), (7, .int .i64 (list.length : Int)), (8, .int .i64 x)]) (stL S rg [])
  refine qZ (rZ (wZ rg (o_lss rfl rfl (nZ (qZ ?_)))))
  refine Vc.cond' rfl (fun hb => ?_) (fun hb => ?_)
  · replace h := h.1 hb
    refine Vc.skip' ?_
    refine qZ ?_
    refine Vc.blk ?_
    refine qZ (rZ (wZ rg (o_idxL td84 sz94 (by decide) (fun _ => rfl) rfl rfl h.1 ?_)))
    replace h := h.2
    refine wZ rg (o_loadIA sz94 (by decide) ag94 rfl rfl (v := eCube (at' list x)) rfl (wZ rg (o_alloc zav94 ok94 (kk := 2) rfl (fun g1 => (wZ rg (o_storeB (atL (k := 4) rfl) sz94 (by decide) rfl (w := eCube (at' list x)) rfl rfl rfl (v := eCube (at' list x)) rfl setL (nZ (qZ (rZ (wZ rg (o_loadBA (atL (k := 4) rfl) sz94 (by decide) ag94 rfl rfl (v := eCube (at' list x)) rfl ?_)))))))))))
    refine wZ rg (o_call (us := [eCube (at' list x)]) rfl (vl' vr (vn)) (cube_Check_ctr h fun err h => (asZ (eErr 83 err) rfl (nZ (qZ (rZ (mvZ (eErr 83 err) rfl (wZ rg (o_isnon td29 (E := 83) rfl rfl rfl (nZ ?_))))))))))
    refine Vc.cond' rfl (fun hb1 => ?_) (fun hb1 => ?_)
    · replace h := h.1 hb1
      refine qZ (rZ (mvZ (eErr 83 err) rfl (asZ (eErr 83 err) rfl (nZ ?_))))
      refine Vc.ret' ?_
      refine res_tmp (v := eErr 83 err) rfl (res_nil ?_)
      show Gives _ (eErr 83 err) _
      exact gives_out hrg (VW.refl _) (hQ _ h)
    replace h := h.2 hb1
    refine Vc.skip' ?_
    refine rZ ?_
    refine wZ rg (o_addG rfl rfl h.1 ?_)
    replace h := h.2
    refine mvZ (.int .i64 (x + 1)) rfl (nZ ?_)
    exact ⟨(x + 1), (canon (fc vr (fc vr (fc vr (fn)))) (sn)), h⟩
  replace h := h.2 hb
  refine Vc.exit' (exB_self ?_)
  refine qZ (rZ (asZ .niface rfl (nZ ?_)))
  refine Vc.ret' ?_
  refine res_tmp (v := .niface) rfl (res_nil ?_)
  show Gives _ .niface _
  exact gives_out hrg (VW.refl _) (hQ _ h)
theorem cube_checkList_ctr {l : List GCube} {Q : Option Int → Prop} {S : St} {R : AV → St → Prop} (h : cube_checkList_W l Q) (hQ : ∀ r1, Q r1 → R (eErr 83 r1) S) :
    Ctr Try.prog 154 [eL eCube l] S R := by
  unfold cube_checkList_W at h
  refine enterT Try.func154 rfl Try.ntmps154 Try.results154 (by kernel_rfl) (fun rg hrg => ?_)
  refine qZ (rZ (asZ .niface rfl (nZ (qZ (qZ (rZ (mvZ (eL eCube l) rfl (wZ rg (o_len td84 rfl (wZ rg (o_gtr rfl rfl (nZ ?_))))))))))))
  refine Vc.cond' rfl (fun hb => ?_) (fun hb => ?_)
  · replace h := h.1 hb
    refine qZ (rZ (wZ rg (o_iface (by rw [td83]; trivial) (v := .int .i64 4) rfl (asZ (.iface 83 (.int .i64 4)) rfl (nZ ?_)))))
    refine Vc.ret' ?_
    refine res_tmp (v := .iface 83 (.int .i64 4)) rfl (res_nil ?_)
    show Gives _ (.iface 83 (.int .i64 4)) _
    exact gives_out hrg (VW.refl _) (hQ _ h)
  replace h := h.2 hb
  refine Vc.skip' ?_
  refine qZ (rZ (mvZ (eL eCube l) rfl (wZ rg (o_call (us := [eL eCube l]) rfl (vl' vr (vn)) (cube_checkAll_ctr h fun r h => (asZ (eErr 83 r) rfl (nZ ?_)))))))
  refine Vc.ret' ?_
  refine res_tmp (v := eErr 83 r) rfl (res_nil ?_)
  show Gives _ (eErr 83 r) _
  exact gives_out hrg (VW.refl _) (hQ _ h)
theorem cube_apart_ctr {a : GCube} {b : GCube} {Q : Bool → Prop} {S : St} {R : AV → St → Prop} (h : cube_apart_W a b Q) (hQ : ∀ r1, Q r1 → R (AV.bool r1) S) :
    Ctr Try.prog 155 [eCube a, eCube b] S R := by
  unfold cube_apart_W at h
  refine enterT Try.func155 rfl Try.ntmps155 Try.results155 (by kernel_rfl) (fun rg hrg => ?_)
  refine qZ (rZ (wZ rg (o_box (v := eCube a) rfl rfl (kk := 2) rfl (by decide) (fun g1 => (wZ rg (o_box (v := eCube b) rfl rfl (kk := 2) rfl (by decide) (fun g2 => (asZ (.bool false) rfl (nZ (qZ (rZ (wZ rg (o_faP td94 rfl rfl (by rw [sz3]; decide) rfl (wZ rg (o_loadB1 (atL (k := 2) rfl) sz3 ag3 rfl rfl (v := .int .i64 a.Yes) rfl (wZ rg (o_faP td94 rfl rfl (by rw [sz3]; decide) rfl ?_)))))))))))))))))
  refine wZ rg (o_loadB1 (atL (k := 3) rfl) sz3 ag3 rfl rfl (v := .int .i64 b.No) rfl (wZ rg (o_and rfl rfl (wZ rg (o_faP td94 rfl rfl (by rw [sz3]; decide) rfl (wZ rg (o_loadB1 (atL (k := 2) rfl) sz3 ag3 rfl rfl (v := .int .i64 a.No) rfl (wZ rg (o_faP td94 rfl rfl (by rw [sz3]; decide) rfl (wZ rg (o_loadB1 (atL (k := 3) rfl) sz3 ag3 rfl rfl (v := .int .i64 b.Yes) rfl (wZ rg (o_and rfl rfl ?_)))))))))))))
  refine wZ rg (o_or rfl rfl (wZ rg (o_neq rfl rfl (asZ (.bool ((bits .or .i64 (bits .and .i64 a.Yes b.No) (bits .and .i64 a.No b.Yes)) != 0)) rfl (nZ ?_)))))
  refine Vc.ret' ?_
  refine res_tmp (v := .bool ((bits .or .i64 (bits .and .i64 a.Yes b.No) (bits .and .i64 a.No b.Yes)) != 0)) rfl (res_nil ?_)
  show Gives _ (.bool ((bits .or .i64 (bits .and .i64 a.Yes b.No) (bits .and .i64 a.No b.Yes)) != 0)) _
  exact gives_out hrg (VW.refl _) (hQ _ h)
theorem cube_Disjoint_ctr {l : List GCube} {Q : Bool → Option Int → Prop} {S : St} {R : AV → St → Prop} (h : cube_Disjoint_W l Q) (hQ : ∀ r1 r2, Q r1 r2 → R (.tuple [AV.bool r1, eErr 83 r2]) S) :
    Ctr Try.prog 85 [eL eCube l] S R := by
  unfold cube_Disjoint_W at h
  refine enterT Try.func85 rfl Try.ntmps85 Try.results85 (by kernel_rfl) (fun rg hrg => ?_)
  refine qZ (rZ (asZ (.bool false) rfl (asZ .niface rfl (nZ (qZ (qZ (rZ (mvZ (eL eCube l) rfl (wZ rg (o_call (us := [eL eCube l]) rfl (vl' vr (vn)) (cube_checkList_ctr h fun err h => (asZ (eErr 83 err) rfl (nZ (qZ (rZ (mvZ (eErr 83 err) rfl (wZ rg (o_isnon td29 (E := 83) rfl rfl rfl (nZ ?_)))))))))))))))))))
  refine Vc.cond' rfl (fun hb => ?_) (fun hb => ?_)
  · replace h := h.1 hb
    refine qZ (rZ (mvZ (eErr 83 err) rfl (asZ (.bool false) rfl (asZ (eErr 83 err) rfl (nZ ?_)))))
    refine Vc.ret' ?_
    refine res_tmp (v := .bool false) rfl (res_tmp (v := eErr 83 err) rfl (res_nil ?_))
    show Gives _ (.tuple [.bool false, eErr 83 err]) _
    exact gives_out hrg (VW.tupL (vl' vr (vl' vr (vn)))) (hQ _ _ h)
  replace h := h.2 hb
  refine Vc.skip' ?_
  refine qZ (qZ (rZ (mvZ (eL eCube l) rfl (wZ rg (o_len td84 rfl (mvZ (.int .i64 0) rfl (nZ ?_)))))))
  refine Vc.blk ?_
  obtain ⟨I, μ, h0, hI⟩ := h
  refine Vc.loop' (σ := (Int)) (fun y => I y) (fun y => μ y) (fun y => envOf [(0, eL eCube l), (14, eL eCube l), (15, .int .i64 (l.length : Int)), (16, .int .i64 y)]) (fun y => stL S rg []) 0 (canon (fc vr (fc vr (fc vr (fc vr (fn))))) (sn)) h0 (fun x h => ?_)
  replace h := hI x h
  show Vc _ _ _ _ (envOf [(0, eL eCube l), (14, eL eCube l), (15, .int .i64 (l.length : Int)), (16, .int .i64 x)]) (stL S rg [])
  refine qZ (rZ (wZ rg (o_lss rfl rfl (nZ (qZ ?_)))))
  refine Vc.cond' rfl (fun hb1 => ?_) (fun hb1 => ?_)
  · replace h := h.1 hb1
    refine Vc.skip' ?_
    refine qZ ?_
    refine Vc.blk ?_
    refine qZ (rZ (mvZ (.int .i64 x) rfl (wZ rg (o_idxL td84 sz94 (by decide) (fun _ => rfl) rfl rfl h.1 ?_))))
    replace h := h.2
    refine wZ rg (o_loadIA sz94 (by decide) ag94 rfl rfl (v := eCube (at' l x)) rfl (wZ rg (o_alloc zav94 ok94 (kk := 2) rfl (fun g1 => (asZ (.int .i64 x) rfl (wZ rg (o_storeB (atL (k := 6) rfl) sz94 (by decide) rfl (w := eCube (at' l x)) rfl rfl rfl (v := eCube (at' l x)) rfl setL (nZ (qZ (rZ (mvZ (eL eCube l) rfl (mvZ (.int .i64 x) rfl ?_))))))))))))
    refine wZ rg (o_sliceL td84 sz94 (by decide) (fun _ => rfl) rfl (l := 0) (h := x) rfl rfl h.1 ?_)
    replace h := h.2
    refine wZ rg (o_len td84 rfl (mvZ (.int .i64 0) rfl (nZ ?_)))
    refine Vc.blk ?_
    obtain ⟨I, μ, h0, hI⟩ := h
    refine Vc.loop' (σ := (Int)) (fun y => I y) (fun y => μ y) (fun y => envOf [(0, eL eCube l), (6, .ptr rg 6 g1 0 0), (14, eL eCube l), (15, .int .i64 (l.length : Int)), (16, .int .i64 x), (23, eL eCube (sub' l 0 x)), (24, .int .i64 ((sub' l 0 x).length : Int)), (25, .int .i64 y)]) (fun y => stL S rg [(6, .arr 2 [eCube (at' l x)], g1)]) 0 (canon (fc vr (fc vr (fc vr (fc vr (fc vr (fc vr (fc vr (fc vr (fn))))))))) (sc rfl (sn))) h0 (fun x1 h => ?_)
    replace h := hI x1 h
    show Vc _ _ _ _ (envOf [(0, eL eCube l), (6, .ptr rg 6 g1 0 0), (14, eL eCube l), (15, .int .i64 (l.length : Int)), (16, .int .i64 x), (23, eL eCube (sub' l 0 x)), (24, .int .i64 ((sub' l 0 x).length : Int)), (25, .int .i64 x1)]) (stL S rg [(6, .arr 2 [eCube (at' l x)], g1)])
    refine qZ (rZ (wZ rg (o_lss rfl rfl (nZ (qZ ?_)))))
    refine Vc.cond' rfl (fun hb2 => ?_) (fun hb2 => ?_)
    · replace h := h.1 hb2
      refine Vc.skip' ?_
      refine qZ ?_
      refine Vc.blk ?_
      refine qZ (rZ (wZ rg (o_idxL td84 sz94 (by decide) (fun _ => rfl) rfl rfl h.1 ?_)))
      replace h := h.2
      refine wZ rg (o_loadIA sz94 (by decide) ag94 rfl rfl (v := eCube (at' (sub' l 0 x) x1)) rfl (wZ rg (o_alloc zav94 ok94 (kk := 2) rfl (fun g2 => (wZ rg (o_storeB (atL (k := 8) rfl) sz94 (by decide) rfl (w := eCube (at' (sub' l 0 x) x1)) rfl rfl rfl (v := eCube (at' (sub' l 0 x) x1)) rfl setL (nZ (qZ (rZ (wZ rg (o_loadBA (atL (k := 6) rfl) sz94 (by decide) ag94 rfl rfl (v := eCube (at' l x)) rfl ?_)))))))))))
      refine wZ rg (o_loadBA (atL (k := 8) rfl) sz94 (by decide) ag94 rfl rfl (v := eCube (at' (sub' l 0 x) x1)) rfl (wZ rg (o_call (us := [eCube (at' l x), eCube (at' (sub' l 0 x) x1)]) rfl (vl' vr (vl' vr (vn))) (cube_apart_ctr h fun r h => (wZ rg (o_not rfl (nZ ?_)))))))
      refine Vc.cond' rfl (fun hb3 => ?_) (fun hb3 => ?_)
      · replace h := h.1 hb3
        refine qZ (rZ (asZ (.bool false) rfl (asZ .niface rfl (nZ ?_))))
        refine Vc.ret' ?_
        refine res_tmp (v := .bool false) rfl (res_tmp (v := .niface) rfl (res_nil ?_))
        show Gives _ (.tuple [.bool false, .niface]) _
        exact gives_out hrg (VW.tupL (vl' vr (vl' vr (vn)))) (hQ _ _ h)
      replace h := h.2 hb3
      refine Vc.skip' ?_
      refine rZ ?_
      refine wZ rg (o_addG rfl rfl h.1 ?_)
      replace h := h.2
      refine mvZ (.int .i64 (x1 + 1)) rfl (nZ ?_)
      exact ⟨(x1 + 1), (canon (fc vr (fc vr (fc vr (fc vr (fc vr (fc vr (fc vr (fc vr (fn))))))))) (sc rfl (sn))), h⟩
    replace h := h.2 hb2
    refine Vc.exit' (exB_self ?_)
    refine rZ ?_
    refine wZ rg (o_addG rfl rfl h.1 ?_)
    replace h := h.2
    refine mvZ (.int .i64 (x + 1)) rfl (nZ ?_)
    exact ⟨(x + 1), (canon (fc vr (fc vr (fc vr (fc vr (fn))))) (sn)), h⟩
  replace h := h.2 hb1
  refine Vc.exit' (exB_self ?_)
  refine qZ (rZ (asZ (.bool true) rfl (asZ .niface rfl (nZ ?_))))
  refine Vc.ret' ?_
  refine res_tmp (v := .bool true) rfl (res_tmp (v := .niface) rfl (res_nil ?_))
  show Gives _ (.tuple [.bool true, .niface]) _
  exact gives_out hrg (VW.tupL (vl' vr (vl' vr (vn)))) (hQ _ _ h)
end Go.Proofs.Ytllegjdggcmgaaa
/- Walks of functions. Conditions: none. -/
namespace Go.Proofs.Ytllegjdggcmgaaa
open Go.Gg
set_option maxRecDepth 100000
theorem diagram_Cubes_1__e2_ctr {fu : Nat} : ∀ {r : Int} {c : GCube} {u : GDiagram} {u1 : List GCube} {q0 k0 g0 q1 k1 g1 q2 k2 g2 q3 k3 g3 : Nat} (_hdk : DK [(q0, k0), (q3, k3), (q1, k1), (q2, k2)]) {Q : List GCube → Bool → Prop} {S : St} {R : AV → St → Prop} (_h : diagram_Cubes_1__e2_W fu r c u u1 Q) (_hQ : ∀ r1 r2, ∀ h3, Q r1 r2 → R (AV.bool r2) (stX S [(q0, k0, .arr 1 [.sl 2 q3 k3 h3 0 r1.length], g0), (q3, k3, .arr 2 (List.map eCube r1), h3), (q1, k1, .arr 3 [eDiagram u], g1), (q2, k2, .arr 1 [.fn (.func 152) [] [.ptr q0 k0 g0 0 0, .ptr q1 k1 g1 0 0, .ptr q2 k2 g2 0 0]], g2)])),
    Ctr Try.prog 152 [AV.int .i64 r, eCube c, .ptr q0 k0 g0 0 0, .ptr q1 k1 g1 0 0, .ptr q2 k2 g2 0 0] (stX S [(q0, k0, .arr 1 [.sl 2 q3 k3 g3 0 u1.length], g0), (q3, k3, .arr 2 (List.map eCube u1), g3), (q1, k1, .arr 3 [eDiagram u], g1), (q2, k2, .arr 1 [.fn (.func 152) [] [.ptr q0 k0 g0 0 0, .ptr q1 k1 g1 0 0, .ptr q2 k2 g2 0 0]], g2)]) R := by
  induction fu with
  | zero =>
    intro r c u u1 q0 k0 g0 q1 k1 g1 q2 k2 g2 q3 k3 g3 hdk Q S R h hQ
    exact False.elim h
  | succ fu ih =>
  intro r c u u1 q0 k0 g0 q1 k1 g1 q2 k2 g2 q3 k3 g3 hdk Q S R h hQ
  rw [diagram_Cubes_1__e2_W] at h
  refine enterT Try.func152 rfl Try.ntmps152 Try.results152 (by kernel_rfl) (fun rg hrg => ?_)
  have hdx : DX [(q0, k0, .arr 1 [.sl 2 q3 k3 g3 0 u1.length], g0), (q3, k3, .arr 2 (List.map eCube u1), g3), (q1, k1, .arr 3 [eDiagram u], g1), (q2, k2, .arr 1 [.fn (.func 152) [] [.ptr q0 k0 g0 0 0, .ptr q1 k1 g1 0 0, .ptr q2 k2 g2 0 0]], g2)] := hdk
  have hfr := fun X' e => fresh_set (S := S) (rg := rg) (X := [(q0, k0, .arr 1 [.sl 2 q3 k3 g3 0 u1.length], g0), (q3, k3, .arr 2 (List.map eCube u1), g3), (q1, k1, .arr 3 [eDiagram u], g1), (q2, k2, .arr 1 [.fn (.func 152) [] [.ptr q0 k0 g0 0 0, .ptr q1 k1 g1 0 0, .ptr q2 k2 g2 0 0]], g2)]) (X' := X') e hrg
  have hne0 := fresh_ne hdx hrg 0 rfl
  have hne3 := fresh_ne hdx hrg 1 rfl
  have hne1 := fresh_ne hdx hrg 2 rfl
  have hne2 := fresh_ne hdx hrg 3 rfl
  refine qZ (rZ (wZ rg (o_box (v := eCube c) rfl rfl (kk := 2) rfl (by decide) (fun g4 => (asZ (.bool false) rfl (nZ (qZ (qZ (rZ (mvZ (.int .i64 r) rfl (nZ ?_)))))))))))
  refine Vc.blk ?_
  refine qZ (rZ (wZ rg (o_eql rfl rfl (asZ (.bool (r == 0)) rfl (nZ ?_)))))
  refine Vc.cond' rfl (fun hb => ?_) (fun hb => ?_)
  · replace h := h.1 hb
    refine qZ (rZ (asZ (.bool true) rfl (nZ ?_)))
    refine Vc.ret' ?_
    refine res_tmp (v := .bool true) rfl (res_nil ?_)
    show Gives _ (.bool true) _
    exact gives_out (hfr _ rfl) (VW.refl _) (hQ _ _ _ h)
  replace h := h.2 hb
  refine qZ (rZ (wZ rg (o_eql rfl rfl (asZ (.bool (r == 1)) rfl (nZ ?_)))))
  refine Vc.cond' rfl (fun hb1 => ?_) (fun hb1 => ?_)
  · replace h := h.1 hb1
    refine qZ (rZ (wZ rg (o_loadB1 (atX hne0 hdx 0 rfl) sz84 ag84 rfl rfl (v := .sl 2 q3 k3 g3 0 u1.length) rfl (wZ rg (o_loadBA (atL (k := 6) rfl) sz94 (by decide) ag94 rfl rfl (v := eCube c) rfl (wZ rg (o_bslice td84 ok94 zav94 (es := [eCube c]) rfl (kk := 2) rfl rfl rfl rfl rfl rfl (fun g5 => ?_))))))))
    refine wZ rg (o_appR td84 bts94 ok94 zav94 (es := u1) (xs := [c]) (enc := eCube) (atX hne3 hdx 1 rfl) (by first | rfl | omega | (simp only [go_sem] <;> omega)) (view_rowE (atL (k := 17) rfl) (by first | rfl | omega | (simp only [go_sem] <;> omega))) (kk := 2) rfl rfl (fun _ => rfl) (fun _ => rfl) h.1 rfl (fun _ => (setX hne3 hdx 1 rfl rfl)) (fun g6 => ?_))
    replace h := h.2
    refine wZ rg (o_storeB (atX hne0 hdx 0 rfl) sz84 (by decide) rfl (w := .sl 2 q3 k3 g6 0 ((u1 ++ [c]).length)) rfl rfl rfl (v := .sl 2 q3 k3 g6 0 ((u1 ++ [c]).length)) rfl (setX hne0 hdx 0 rfl rfl) (nZ (qZ (rZ (wZ rg (o_loadB1 (atX hne0 hdx 0 rfl) sz84 ag84 rfl rfl (v := .sl 2 q3 k3 g6 0 ((u1 ++ [c]).length)) rfl (wZ rg (o_lenR td84 rfl (wZ rg (o_leq rfl rfl ?_))))))))))
    refine asZ (.bool (decide (((u1 ++ [c]).length : Int) ≤ 1024))) rfl (nZ ?_)
    refine Vc.ret' ?_
    refine res_tmp (v := .bool (decide (((u1 ++ [c]).length : Int) ≤ 1024))) rfl (res_nil ?_)
    show Gives _ (.bool (decide (((u1 ++ [c]).length : Int) ≤ 1024))) _
    exact gives_out (hfr _ rfl) (VW.refl _) (hQ _ _ _ h)
  replace h := h.2 hb1
  refine Vc.skip' ?_
  refine qZ (rZ (wZ rg (o_faP td25 rfl rfl (by rw [sz23]; decide) rfl (wZ rg (o_loadB1 (atX hne1 hdx 2 rfl) sz23 ag23 rfl rfl (v := eL eDNode u.Nodes) rfl (mvZ (.int .i64 r) rfl (wZ rg (o_subG rfl rfl h.1 ?_))))))))
  replace h := h.2
  refine wZ rg (o_idxL td23 sz134 (by decide) (fun _ => rfl) rfl rfl h.1 ?_)
  replace h := h.2
  refine wZ rg (o_loadIA sz134 (by decide) ag134 rfl rfl (v := eDNode (at' u.Nodes (r - 2))) rfl (wZ rg (o_alloc zav134 ok134 (kk := 3) rfl (fun g7 => (wZ rg (o_storeB (atL (k := 8) rfl) sz134 (by decide) rfl (w := eDNode (at' u.Nodes (r - 2))) rfl rfl rfl (v := eDNode (at' u.Nodes (r - 2))) rfl setL (nZ (qZ (rZ (wZ rg (o_faP td134 rfl rfl (by rw [sz3]; decide) rfl ?_)))))))))))
  refine wZ rg (o_loadB1 (atL (k := 8) rfl) sz3 ag3 rfl rfl (v := .int .i64 ((at' u.Nodes (r - 2)).Var)) rfl (wZ rg (o_shlG rfl rfl h.1 ?_)))
  replace h := h.2
  obtain ⟨bit, hs⟩ : ∃ qz : Int, qz = (1 * 2 ^ (Int.toNat ((at' u.Nodes (r - 2)).Var))) := ⟨_, rfl⟩
  replace h := h bit hs
  refine wZ rg (o_assign (v := .int .i64 bit) (by subst hs; rfl) (nZ (qZ (rZ (wZ rg (o_loadB1 (atX hne2 hdx 3 rfl) sz158 ag158 rfl rfl (v := .fn (.func 152) [] [.ptr q0 k0 g0 0 0, .ptr q1 k1 g1 0 0, .ptr q2 k2 g2 0 0]) rfl (wZ rg (o_faP td134 rfl rfl (by rw [sz3]; decide) rfl (wZ rg (o_loadB1 (atL (k := 8) rfl) sz3 ag3 rfl rfl (v := .int .i64 ((at' u.Nodes (r - 2)).Lo)) rfl ?_))))))))))
  refine wZ rg (o_faP td94 rfl rfl (by rw [sz3]; decide) rfl (wZ rg (o_loadB1 (atL (k := 6) rfl) sz3 ag3 rfl rfl (v := .int .i64 c.Yes) rfl (wZ rg (o_faP td94 rfl rfl (by rw [sz3]; decide) rfl (wZ rg (o_loadB1 (atL (k := 6) rfl) sz3 ag3 rfl rfl (v := .int .i64 c.No) rfl (mvZ (.int .i64 bit) rfl (wZ rg (o_or rfl rfl ?_))))))))))
  refine wZ rg (o_build td94 zav94 bok94 szs94 sz94 (ps := [(0, .int .i64 c.Yes), (1, .int .i64 (bits .or .i64 c.No bit))]) rfl rfl (v := .agg [.int .i64 c.Yes, .int .i64 (bits .or .i64 c.No bit)]) rfl ?_)
  refine wZ rg (o_call (us := [AV.int .i64 ((at' u.Nodes (r - 2)).Lo), eCube (⟨c.Yes, (bits .or .i64 c.No bit)⟩ : GCube), .ptr q0 k0 g0 0 0, .ptr q1 k1 g1 0 0, .ptr q2 k2 g2 0 0]) rfl (vl' vr (vl' vr (vl' vr (vl' vr (vl' vr (vn)))))) (ctrX (sx_c (atX hne0 hdx 0 rfl) (sx_c (atX hne3 hdx 1 rfl) (sx_c (atX hne1 hdx 2 rfl) (sx_c (atX hne2 hdx 3 rfl) (sx_n))))) (ih (dk_c (ni_c (dk_at 0 1 hdk rfl rfl rfl) (ni_c (dk_at 0 2 hdk rfl rfl rfl) (ni_c (dk_at 0 3 hdk rfl rfl rfl) (ni_n)))) (dk_c (ni_c (dk_at 1 2 hdk rfl rfl rfl) (ni_c (dk_at 1 3 hdk rfl rfl rfl) (ni_n))) (dk_c (ni_c (dk_at 2 3 hdk rfl rfl rfl) (ni_n)) (dk_c (ni_n) (dk_n))))) h fun u2 r1 g8 h => ?_)))
  refine Wl.eqS (sy_c (sy_c (sx_c (atX hne1 hdx 2 rfl) (sx_c (atX hne2 hdx 3 rfl) (sx_n))) (setX hne3 hdx 1 rfl rfl)) (setX hne0 hdx 0 rfl rfl)) ?_
  refine mvZ (.bool r1) rfl ?_
  refine Wl.guard rfl rfl (fun hb2 => ?_) (fun hb2 => ?_)
  · replace h := h.1 hb2
    refine wZ rg (o_loadB1 (atX hne2 hdx 3 rfl) sz158 ag158 rfl rfl (v := .fn (.func 152) [] [.ptr q0 k0 g0 0 0, .ptr q1 k1 g1 0 0, .ptr q2 k2 g2 0 0]) rfl ?_)
    refine Wl.guardT rfl rfl hb2 ?_
    refine wZ rg (o_faP td134 rfl rfl (by rw [sz3]; decide) rfl ?_)
    refine Wl.guardT rfl rfl hb2 ?_
    refine wZ rg (o_loadB1 (atL (k := 8) rfl) sz3 ag3 rfl rfl (v := .int .i64 ((at' u.Nodes (r - 2)).Hi)) rfl ?_)
    refine Wl.guardT rfl rfl hb2 ?_
    refine wZ rg (o_faP td94 rfl rfl (by rw [sz3]; decide) rfl ?_)
    refine Wl.guardT rfl rfl hb2 ?_
    refine wZ rg (o_loadB1 (atL (k := 6) rfl) sz3 ag3 rfl rfl (v := .int .i64 c.Yes) rfl ?_)
    refine Wl.guardT rfl rfl hb2 ?_
    refine mvZ (.int .i64 bit) rfl ?_
    refine Wl.guardT rfl rfl hb2 ?_
    refine wZ rg (o_or rfl rfl ?_)
    refine Wl.guardT rfl rfl hb2 ?_
    refine wZ rg (o_faP td94 rfl rfl (by rw [sz3]; decide) rfl ?_)
    refine Wl.guardT rfl rfl hb2 ?_
    refine wZ rg (o_loadB1 (atL (k := 6) rfl) sz3 ag3 rfl rfl (v := .int .i64 c.No) rfl ?_)
    refine Wl.guardT rfl rfl hb2 ?_
    refine wZ rg (o_build td94 zav94 bok94 szs94 sz94 (ps := [(0, .int .i64 (bits .or .i64 c.Yes bit)), (1, .int .i64 c.No)]) rfl rfl (v := .agg [.int .i64 (bits .or .i64 c.Yes bit), .int .i64 c.No]) rfl ?_)
    refine Wl.guardT rfl rfl hb2 ?_
    refine wZ rg (o_call (us := [AV.int .i64 ((at' u.Nodes (r - 2)).Hi), eCube (⟨(bits .or .i64 c.Yes bit), c.No⟩ : GCube), .ptr q0 k0 g0 0 0, .ptr q1 k1 g1 0 0, .ptr q2 k2 g2 0 0]) rfl (vl' vr (vl' vr (vl' vr (vl' vr (vl' vr (vn)))))) (ctrX (sx_c (atX hne0 hdx 0 rfl) (sx_c (atX hne3 hdx 1 rfl) (sx_c (atX hne1 hdx 2 rfl) (sx_c (atX hne2 hdx 3 rfl) (sx_n))))) (ih (dk_c (ni_c (dk_at 0 1 hdk rfl rfl rfl) (ni_c (dk_at 0 2 hdk rfl rfl rfl) (ni_c (dk_at 0 3 hdk rfl rfl rfl) (ni_n)))) (dk_c (ni_c (dk_at 1 2 hdk rfl rfl rfl) (ni_c (dk_at 1 3 hdk rfl rfl rfl) (ni_n))) (dk_c (ni_c (dk_at 2 3 hdk rfl rfl rfl) (ni_n)) (dk_c (ni_n) (dk_n))))) h fun u3 r2 g9 h => ?_)))
    refine Wl.eqS (sy_c (sy_c (sx_c (atX hne1 hdx 2 rfl) (sx_c (atX hne2 hdx 3 rfl) (sx_n))) (setX hne3 hdx 1 rfl rfl)) (setX hne0 hdx 0 rfl rfl)) ?_
    refine wZ rg (o_pickT rfl hb2 (v := .bool r2) rfl (asZ (.bool r2) rfl (nZ ?_)))
    refine Vc.ret' ?_
    refine res_tmp (v := .bool r2) rfl (res_nil ?_)
    show Gives _ (.bool r2) _
    exact gives_out (hfr _ rfl) (VW.refl _) (hQ _ _ _ h)
  replace h := h.2 hb2
  refine Wl.guardF rfl rfl hb2 rfl ?_
  refine Wl.guardF rfl rfl hb2 rfl ?_
  refine Wl.guardF rfl rfl hb2 rfl ?_
  refine Wl.guardF rfl rfl hb2 rfl ?_
  refine Wl.guardF rfl rfl hb2 rfl ?_
  refine Wl.guardF rfl rfl hb2 rfl ?_
  refine Wl.guardF rfl rfl hb2 rfl ?_
  refine Wl.guardF rfl rfl hb2 rfl ?_
  refine Wl.guardF rfl rfl hb2 rfl ?_
  refine Wl.guardF rfl rfl hb2 rfl ?_
  refine wZ rg (o_pickF rfl hb2 (v := .bool false) rfl (asZ (.bool false) rfl (nZ ?_)))
  refine Vc.ret' ?_
  refine res_tmp (v := .bool false) rfl (res_nil ?_)
  show Gives _ (.bool false) _
  exact gives_out (hfr _ rfl) (VW.refl _) (hQ _ _ _ h)
theorem diagram_Cubes_ctr {d : GDiagram} {Q : List GCube → Option Int → Prop} {S : St} {R : AV → St → Prop} (h : diagram_Cubes_W d Q) (hQ : ∀ r1 r2, Q r1 r2 → R (.tuple [eL eCube r1, eErr 83 r2]) S) :
    Ctr Try.prog 82 [eDiagram d] S R := by
  unfold diagram_Cubes_W at h
  refine enterT Try.func82 rfl Try.ntmps82 Try.results82 (by kernel_rfl) (fun rg hrg => ?_)
  refine qZ (rZ (wZ rg (o_box (v := eDiagram d) rfl rfl (kk := 3) rfl (by decide) (fun g1 => (asZ .nil rfl (asZ .niface rfl (nZ (qZ (qZ (rZ (wZ rg (o_loadBA (atL (k := 1) rfl) sz25 (by decide) ag25 rfl rfl (v := eDiagram d) rfl (wZ rg (o_call (us := [eDiagram d]) rfl (vl' vr (vn)) (diagram_Check_ctr h fun err h => (asZ (eErr 83 err) rfl (nZ (qZ (rZ (mvZ (eErr 83 err) rfl ?_))))))))))))))))))))
  refine wZ rg (o_isnon td29 (E := 83) rfl rfl rfl (nZ ?_))
  refine Vc.cond' rfl (fun hb => ?_) (fun hb => ?_)
  · replace h := h.1 hb
    refine qZ (rZ (mvZ (eErr 83 err) rfl (asZ .nil rfl (asZ (eErr 83 err) rfl (nZ ?_)))))
    refine Vc.ret' ?_
    refine res_tmp (v := .nil) rfl (res_tmp (v := eErr 83 err) rfl (res_nil ?_))
    show Gives _ (.tuple [.nil, eErr 83 err]) _
    exact gives_out hrg (VW.tupL (vl' (VW.nilL) (vl' vr (vn)))) (hQ _ _ h)
  replace h := h.2 hb
  refine Vc.skip' ?_
  refine qZ (rZ (wZ rg (o_alloc zav84 ok84 (kk := 1) rfl (fun g2 => (nZ (qZ (rZ (wZ rg (o_alloc zav158 ok158 (kk := 1) rfl (fun g3 => (nZ (qZ (rZ (wZ rg (o_func (vs := []) (us := [.ptr rg 5 g2 0 0, .ptr rg 1 g1 0 0, .ptr rg 6 g3 0 0]) rfl rfl ?_)))))))))))))))
  refine wZ rg (o_storeB (atL (k := 6) rfl) sz158 (by decide) rfl (w := .fn (.func 152) [] [.ptr rg 5 g2 0 0, .ptr rg 1 g1 0 0, .ptr rg 6 g3 0 0]) rfl rfl rfl (v := .fn (.func 152) [] [.ptr rg 5 g2 0 0, .ptr rg 1 g1 0 0, .ptr rg 6 g3 0 0]) rfl setL (nZ (qZ (qZ (rZ ?_)))))
  refine wZ rg (o_loadB1 (atL (k := 6) rfl) sz158 ag158 rfl rfl (v := .fn (.func 152) [] [.ptr rg 5 g2 0 0, .ptr rg 1 g1 0 0, .ptr rg 6 g3 0 0]) rfl (wZ rg (o_faP td25 rfl rfl (by rw [sz3]; decide) rfl (wZ rg (o_loadB1 (atL (k := 1) rfl) sz3 ag3 rfl rfl (v := .int .i64 d.Root) rfl (wZ rg (o_build td94 zav94 bok94 szs94 sz94 (ps := []) rfl rfl (v := .agg [.int .i64 0, .int .i64 0]) rfl ?_)))))))
  refine Wl.matB 5 0 6000 2 (b := fun g4 => .sl 2 rg 6000 g4 0 (([] : List GCube).length)) rfl rfl (by decide) (by decide) rfl (fun g4 => ?_)
  obtain ⟨_, h⟩ := h
  refine wZ rg (o_call (us := [AV.int .i64 d.Root, eCube (⟨0, 0⟩ : GCube), .ptr rg 5 g2 0 0, .ptr rg 1 g1 0 0, .ptr rg 6 g3 0 0]) rfl (vl' vr (vl' vr (vl' vr (vl' vr (vl' vr (vn)))))) (ctrX (sx_c (atL (k := 5) rfl) (sx_c (atL (k := 6000) rfl) (sx_c (atL (k := 1) rfl) (sx_c (atL (k := 6) rfl) (sx_n))))) (diagram_Cubes_1__e2_ctr (dk_c (ni_c (ni_o rfl) (ni_c (ni_o rfl) (ni_c (ni_o rfl) (ni_n)))) (dk_c (ni_c (ni_o rfl) (ni_c (ni_o rfl) (ni_n))) (dk_c (ni_c (ni_o rfl) (ni_n)) (dk_c (ni_n) (dk_n))))) h fun u r g5 h => ?_)))
  refine Wl.eqS (sy_c (sy_c (sx_c (atL (k := 1) rfl) (sx_c (atL (k := 6) rfl) (sx_n))) setL) setL) ?_
  refine wZ rg (o_not rfl (nZ ?_))
  refine Vc.cond' rfl (fun hb1 => ?_) (fun hb1 => ?_)
  · replace h := h.1 hb1
    refine qZ (rZ (wZ rg (o_iface (by rw [td83]; trivial) (v := .int .i64 4) rfl (asZ .nil rfl (asZ (.iface 83 (.int .i64 4)) rfl (nZ ?_))))))
    refine Vc.ret' ?_
    refine res_tmp (v := .nil) rfl (res_tmp (v := .iface 83 (.int .i64 4)) rfl (res_nil ?_))
    show Gives _ (.tuple [.nil, .iface 83 (.int .i64 4)]) _
    exact gives_out hrg (VW.tupL (vl' (VW.nilL) (vl' vr (vn)))) (hQ _ _ h)
  replace h := h.2 hb1
  refine Vc.skip' ?_
  refine qZ (rZ (wZ rg (o_loadB1 (atL (k := 5) rfl) sz84 ag84 rfl rfl (v := .sl 2 rg 6000 g5 0 u.length) rfl (asZ (.sl 2 rg 6000 g5 0 u.length) rfl (asZ .niface rfl (nZ ?_))))))
  refine Vc.ret' ?_
  refine res_tmp (v := .sl 2 rg 6000 g5 0 u.length) rfl (res_tmp (v := .niface) rfl (res_nil ?_))
  show Gives _ (.tuple [.sl 2 rg 6000 g5 0 u.length, .niface]) _
  refine gives_freeze (k := 6000) (xs := List.map eCube u) rfl (v' := .tuple [eL eCube u, .niface]) (VW.tupL (vl' (frz_full rfl) (vl' vr (vn)))) ?_
  exact gives_out hrg (VW.tupL (vl' vr (vl' vr (vn)))) (hQ _ _ h)
end Go.Proofs.Ytllegjdggcmgaaa
/- Walks of functions. Conditions: none. -/
namespace Go.Proofs.Ytllegjdggcmgaaa
open Go.Gg
set_option maxRecDepth 100000
theorem ref15_paths__e_ctr {fu : Nat} : ∀ {d : GDiagram} {ref : Int} {c : GCube} {before : List GCube} {q0 k0 g0 : Nat} (_hdk : DK [(q0, k0)]) {Q : List GCube → Prop} {S : St} {R : AV → St → Prop} (_h : ref15_paths__e_W fu d ref c before Q) (_hQ : ∀ r1, ∀ h0, Q r1 → R (.sl 2 q0 k0 h0 0 r1.length) (stX S [(q0, k0, .arr 2 (List.map eCube r1), h0)])),
    Ctr Try.prog 153 [eDiagram d, AV.int .i64 ref, eCube c, .sl 2 q0 k0 g0 0 before.length] (stX S [(q0, k0, .arr 2 (List.map eCube before), g0)]) R := by
  induction fu with
  | zero =>
    intro d ref c before q0 k0 g0 hdk Q S R h hQ
    exact False.elim h
  | succ fu ih =>
  intro d ref c before q0 k0 g0 hdk Q S R h hQ
  rw [ref15_paths__e_W] at h
  refine enterT Try.func153 rfl Try.ntmps153 Try.results153 (by kernel_rfl) (fun rg hrg => ?_)
  have hdx : DX [(q0, k0, .arr 2 (List.map eCube before), g0)] := hdk
  have hfr := fun X' e => fresh_set (S := S) (rg := rg) (X := [(q0, k0, .arr 2 (List.map eCube before), g0)]) (X' := X') e hrg
  have hne0 := fresh_ne hdx hrg 0 rfl
  refine qZ (rZ (wZ rg (o_box (v := eDiagram d) rfl rfl (kk := 3) rfl (by decide) (fun g1 => (wZ rg (o_box (v := eCube c) rfl rfl (kk := 2) rfl (by decide) (fun g2 => (asZ .nil rfl (nZ (qZ (qZ (rZ (mvZ (.int .i64 ref) rfl (wZ rg (o_eql rfl rfl (mvZ (.bool (ref == 0)) rfl ?_))))))))))))))))
  refine Wl.guard rfl rfl (fun hb => ?_) (fun hb => ?_)
  · replace h := h.2 hb
    refine mvZ (.sl 2 q0 k0 g0 0 before.length) rfl ?_
    refine Wl.guardT rfl rfl hb ?_
    refine wZ rg (o_lenR td84 rfl ?_)
    refine Wl.guardT rfl rfl hb ?_
    refine wZ rg (o_gtr rfl rfl (wZ rg (o_pickF rfl hb (v := .bool (decide (1024 < (before.length : Int)))) rfl (nZ ?_))))
    refine Vc.cond' rfl (fun hb1 => ?_) (fun hb1 => ?_)
    · replace h := h.1 hb1
      refine qZ (rZ (mvZ (.sl 2 q0 k0 g0 0 before.length) rfl (asZ (.sl 2 q0 k0 g0 0 before.length) rfl (nZ ?_))))
      refine Vc.ret' ?_
      refine res_tmp (v := .sl 2 q0 k0 g0 0 before.length) rfl (res_nil ?_)
      show Gives _ (.sl 2 q0 k0 g0 0 before.length) _
      exact gives_out (hfr _ rfl) (VW.refl _) (hQ _ _ h)
    replace h := h.2 hb1
    refine Vc.skip' ?_
    refine qZ (qZ (rZ (mvZ (.int .i64 ref) rfl (wZ rg (o_eql rfl rfl (nZ ?_))))))
    refine Vc.cond' rfl (fun hb2 => ?_) (fun hb2 => ?_)
    · replace h := h.1 hb2
      refine qZ (rZ (mvZ (.sl 2 q0 k0 g0 0 before.length) rfl (wZ rg (o_loadBA (atL (k := 6) rfl) sz94 (by decide) ag94 rfl rfl (v := eCube c) rfl (wZ rg (o_bslice td84 ok94 zav94 (es := [eCube c]) rfl (kk := 2) rfl rfl rfl rfl rfl rfl (fun g3 => ?_)))))))
      refine wZ rg (o_appR td84 bts94 ok94 zav94 (es := before) (xs := [c]) (enc := eCube) (atX hne0 hdx 0 rfl) (by first | rfl | omega | (simp only [go_sem] <;> omega)) (view_rowE (atL (k := 22) rfl) (by first | rfl | omega | (simp only [go_sem] <;> omega))) (kk := 2) rfl rfl (fun _ => rfl) (fun _ => rfl) h.1 rfl (fun _ => (setX hne0 hdx 0 rfl rfl)) (fun g4 => ?_))
      replace h := h.2
      refine asZ (.sl 2 q0 k0 g4 0 ((before ++ [c]).length)) rfl (nZ ?_)
      refine Vc.ret' ?_
      refine res_tmp (v := .sl 2 q0 k0 g4 0 ((before ++ [c]).length)) rfl (res_nil ?_)
      show Gives _ (.sl 2 q0 k0 g4 0 ((before ++ [c]).length)) _
      exact gives_out (hfr _ rfl) (VW.refl _) (hQ _ _ h)
    replace h := h.2 hb2
    refine Vc.skip' ?_
    refine qZ (rZ (wZ rg (o_faP td25 rfl rfl (by rw [sz23]; decide) rfl (wZ rg (o_loadB1 (atL (k := 4) rfl) sz23 ag23 rfl rfl (v := eL eDNode d.Nodes) rfl (mvZ (.int .i64 ref) rfl (wZ rg (o_subG rfl rfl h.1 ?_))))))))
    replace h := h.2
    refine wZ rg (o_idxL td23 sz134 (by decide) (fun _ => rfl) rfl rfl h.1 ?_)
    replace h := h.2
    refine wZ rg (o_loadIA sz134 (by decide) ag134 rfl rfl (v := eDNode (at' d.Nodes (ref - 2))) rfl (wZ rg (o_alloc zav134 ok134 (kk := 3) rfl (fun g5 => (wZ rg (o_storeB (atL (k := 9) rfl) sz134 (by decide) rfl (w := eDNode (at' d.Nodes (ref - 2))) rfl rfl rfl (v := eDNode (at' d.Nodes (ref - 2))) rfl setL (nZ (qZ ?_))))))))
    have hg := h.1
    replace h := h.2
    obtain ⟨before1, hc, h⟩ := h
    refine Vc.drawn' mixed rg (usOf [(13, wc (fun gm => .sl 2 q0 k0 (gm 0) 0 before1.length) [] [(q0, k0)] (fun gm => [(q0, k0, .arr 2 (List.map eCube before1), (gm 0))]))]) (by kernel_rfl) ?_
    refine dL (E := ([(rg, 4)], [])) rfl rfl (by simp) (cfn) (o_loadBA (atL (k := 4) rfl) sz25 (by decide) ag25 rfl rfl (v := eDiagram d) rfl (dP rfl rfl (o_faP td134 rfl rfl (by rw [sz3]; decide) rfl (dL (E := ([(rg, 9)], [])) rfl rfl (by simp) (cfa (by simp [apartE]) (cfn)) (o_loadB1 (atL (k := 9) rfl) sz3 ag3 rfl rfl (v := .int .i64 ((at' d.Nodes (ref - 2)).Lo)) rfl ?_)))))
    refine dP rfl rfl (o_faP td94 rfl rfl (by rw [sz3]; decide) rfl (dL (E := ([(rg, 6)], [])) rfl rfl (by simp) (cfa (by simp [apartE]) (cfa (by simp [apartE]) (cfn))) (o_loadB1 (atL (k := 6) rfl) sz3 ag3 rfl rfl (v := .int .i64 c.Yes) rfl (dP rfl rfl (o_faP td94 rfl rfl (by rw [sz3]; decide) rfl ?_)))))
    refine dL (E := ([(rg, 6)], [])) rfl rfl (by simp) (cfa (by simp [apartE]) (cfa (by simp [apartE]) (cfa (by simp [apartE]) (cfn)))) (o_loadB1 (atL (k := 6) rfl) sz3 ag3 rfl rfl (v := .int .i64 c.No) rfl (dP rfl rfl (o_faP td134 rfl rfl (by rw [sz3]; decide) rfl ?_)))
    refine dL (E := ([(rg, 9)], [])) rfl rfl (by simp) (cfa (by simp [apartE]) (cfa (by simp [apartE]) (cfa (by simp [apartE]) (cfa (by simp [apartE]) (cfn))))) (o_loadB1 (atL (k := 9) rfl) sz3 ag3 rfl rfl (v := .int .i64 ((at' d.Nodes (ref - 2)).Var)) rfl (dP rfl rfl (o_shlG rfl rfl hg (dP rfl rfl (o_or rfl rfl ?_)))))
    refine dP rfl rfl (o_build td94 zav94 bok94 szs94 sz94 (ps := [(0, .int .i64 c.Yes), (1, .int .i64 (bits .or .i64 c.No (1 * 2 ^ (Int.toNat ((at' d.Nodes (ref - 2)).Var)))))]) rfl rfl (v := .agg [.int .i64 c.Yes, .int .i64 (bits .or .i64 c.No (1 * 2 ^ (Int.toNat ((at' d.Nodes (ref - 2)).Var))))]) rfl (dP rfl rfl (o_move (v := .sl 2 q0 k0 g0 0 before.length) rfl ?_)))
    refine dCE (vs := [eDiagram d, AV.int .i64 ((at' d.Nodes (ref - 2)).Lo), eCube (⟨c.Yes, (bits .or .i64 c.No (1 * 2 ^ (Int.toNat ((at' d.Nodes (ref - 2)).Var))))⟩ : GCube), .sl 2 q0 k0 g0 0 before.length]) (V := fun gm => .sl 2 q0 k0 (gm 0) 0 before1.length) (rd := []) (wk := [(q0, k0)]) (wr := fun gm => [(q0, k0, .arr 2 (List.map eCube before1), (gm 0))]) rfl (vl' vr (vl' vr (vl' vr (vl' vr (vn))))) rfl (cfo (by kernel_rfl) (cfo (by kernel_rfl) (cfo (by kernel_rfl) (cfo (by kernel_rfl) (cfo (by kernel_rfl) (cfn)))))) (by simp) (fun _ => rfl) (fun S' hA hB => ctrX (sx_c (ag hB 0 rfl (atX hne0 hdx 0 rfl)) (sx_n)) (ih (dk_c (ni_n) (dk_n)) hc (fun _ h0 he => by obtain rfl := he; exact ⟨fun i => [h0].getD i 0, rfl, sm_c (sx_n)⟩))) (fun gm => ?_)
    refine vdT.eqS (sa_c (sa_n) (setX hne0 hdx 0 rfl rfl)) ?_
    refine dP rfl rfl (o_assign (v := .sl 2 q0 k0 (gm 0) 0 before1.length) rfl (dN (qZ ?_)))
    have hg1 := h.1
    replace h := h.2
    obtain ⟨before2, hc1, h⟩ := h
    refine Vc.drawn' mixed rg (usOf [(13, wc (fun gm1 => .sl 2 q0 k0 (gm1 0) 0 before2.length) [] [(q0, k0)] (fun gm1 => [(q0, k0, .arr 2 (List.map eCube before2), (gm1 0))]))]) (by kernel_rfl) ?_
    refine dL (E := ([(rg, 4)], [])) rfl rfl (by simp) (cfn) (o_loadBA (atL (k := 4) rfl) sz25 (by decide) ag25 rfl rfl (v := eDiagram d) rfl (dP rfl rfl (o_faP td134 rfl rfl (by rw [sz3]; decide) rfl (dL (E := ([(rg, 9)], [])) rfl rfl (by simp) (cfa (by simp [apartE]) (cfn)) (o_loadB1 (atL (k := 9) rfl) sz3 ag3 rfl rfl (v := .int .i64 ((at' d.Nodes (ref - 2)).Hi)) rfl ?_)))))
    refine dP rfl rfl (o_faP td94 rfl rfl (by rw [sz3]; decide) rfl (dL (E := ([(rg, 6)], [])) rfl rfl (by simp) (cfa (by simp [apartE]) (cfa (by simp [apartE]) (cfn))) (o_loadB1 (atL (k := 6) rfl) sz3 ag3 rfl rfl (v := .int .i64 c.Yes) rfl (dP rfl rfl (o_faP td134 rfl rfl (by rw [sz3]; decide) rfl ?_)))))
    refine dL (E := ([(rg, 9)], [])) rfl rfl (by simp) (cfa (by simp [apartE]) (cfa (by simp [apartE]) (cfa (by simp [apartE]) (cfn)))) (o_loadB1 (atL (k := 9) rfl) sz3 ag3 rfl rfl (v := .int .i64 ((at' d.Nodes (ref - 2)).Var)) rfl (dP rfl rfl (o_shlG rfl rfl hg1 (dP rfl rfl (o_or rfl rfl (dP rfl rfl (o_faP td94 rfl rfl (by rw [sz3]; decide) rfl ?_)))))))
    refine dL (E := ([(rg, 6)], [])) rfl rfl (by simp) (cfa (by simp [apartE]) (cfa (by simp [apartE]) (cfa (by simp [apartE]) (cfa (by simp [apartE]) (cfn))))) (o_loadB1 (atL (k := 6) rfl) sz3 ag3 rfl rfl (v := .int .i64 c.No) rfl ?_)
    refine dP rfl rfl (o_build td94 zav94 bok94 szs94 sz94 (ps := [(0, .int .i64 (bits .or .i64 c.Yes (1 * 2 ^ (Int.toNat ((at' d.Nodes (ref - 2)).Var))))), (1, .int .i64 c.No)]) rfl rfl (v := .agg [.int .i64 (bits .or .i64 c.Yes (1 * 2 ^ (Int.toNat ((at' d.Nodes (ref - 2)).Var)))), .int .i64 c.No]) rfl (dP rfl rfl (o_move (v := .sl 2 q0 k0 (gm 0) 0 before1.length) rfl ?_)))
    refine dCE (vs := [eDiagram d, AV.int .i64 ((at' d.Nodes (ref - 2)).Hi), eCube (⟨(bits .or .i64 c.Yes (1 * 2 ^ (Int.toNat ((at' d.Nodes (ref - 2)).Var)))), c.No⟩ : GCube), .sl 2 q0 k0 (gm 0) 0 before1.length]) (V := fun gm1 => .sl 2 q0 k0 (gm1 0) 0 before2.length) (rd := []) (wk := [(q0, k0)]) (wr := fun gm1 => [(q0, k0, .arr 2 (List.map eCube before2), (gm1 0))]) rfl (vl' vr (vl' vr (vl' vr (vl' vr (vn))))) rfl (cfo (by kernel_rfl) (cfo (by kernel_rfl) (cfo (by kernel_rfl) (cfo (by kernel_rfl) (cfo (by kernel_rfl) (cfn)))))) (by simp) (fun _ => rfl) (fun S' hA hB => ctrX (sx_c (ag hB 0 rfl (atX hne0 hdx 0 rfl)) (sx_n)) (ih (dk_c (ni_n) (dk_n)) hc1 (fun _ h0 he => by obtain rfl := he; exact ⟨fun i => [h0].getD i 0, rfl, sm_c (sx_n)⟩))) (fun gm1 => ?_)
    refine vdT.eqS (sa_c (sa_n) (setX hne0 hdx 0 rfl rfl)) ?_
    refine dP rfl rfl (o_assign (v := .sl 2 q0 k0 (gm1 0) 0 before2.length) rfl (dN ?_))
    refine Vc.ret' ?_
    refine res_tmp (v := .sl 2 q0 k0 (gm1 0) 0 before2.length) rfl (res_nil ?_)
    show Gives _ (.sl 2 q0 k0 (gm1 0) 0 before2.length) _
    exact gives_out (hfr _ rfl) (VW.refl _) (hQ _ _ h)
  replace h := h.1 hb
  refine Wl.guardF rfl rfl hb rfl ?_
  refine Wl.guardF rfl rfl hb rfl ?_
  refine wZ rg (o_pickT rfl hb (v := .bool true) rfl (nZ ?_))
  refine Vc.cond' rfl (fun _ => ?_) (fun hb => Bool.noConfusion hb)
  refine qZ (rZ (mvZ (.sl 2 q0 k0 g0 0 before.length) rfl (asZ (.sl 2 q0 k0 g0 0 before.length) rfl (nZ ?_))))
  refine Vc.ret' ?_
  refine res_tmp (v := .sl 2 q0 k0 g0 0 before.length) rfl (res_nil ?_)
  show Gives _ (.sl 2 q0 k0 g0 0 before.length) _
  exact gives_out (hfr _ rfl) (VW.refl _) (hQ _ _ h)
theorem ref15_Cubes_ctr {d : GDiagram} {Q : List GCube → Int → Prop} {S : St} {R : AV → St → Prop} (h : ref15_Cubes_W d Q) (hQ : ∀ r1 r2, Q r1 r2 → R (.tuple [eL eCube r1, AV.int .i64 r2]) S) :
    Ctr Try.prog 83 [eDiagram d] S R := by
  unfold ref15_Cubes_W at h
  refine enterT Try.func83 rfl Try.ntmps83 Try.results83 (by kernel_rfl) (fun rg hrg => ?_)
  refine qZ (rZ (wZ rg (o_box (v := eDiagram d) rfl rfl (kk := 3) rfl (by decide) (fun g1 => (asZ .nil rfl (asZ (.int .i64 0) rfl (nZ (qZ (rZ (wZ rg (o_loadBA (atL (k := 1) rfl) sz25 (by decide) ag25 rfl rfl (v := eDiagram d) rfl (wZ rg (o_faP td25 rfl rfl (by rw [sz3]; decide) rfl (wZ rg (o_loadB1 (atL (k := 1) rfl) sz3 ag3 rfl rfl (v := .int .i64 d.Root) rfl ?_)))))))))))))))
  refine wZ rg (o_build td94 zav94 bok94 szs94 sz94 (ps := []) rfl rfl (v := .agg [.int .i64 0, .int .i64 0]) rfl ?_)
  obtain ⟨_, h⟩ := h
  refine wZ rg (o_call (us := [eDiagram d, AV.int .i64 d.Root, eCube (⟨0, 0⟩ : GCube), .nil]) rfl (vl' vr (vl' vr (vl' vr (vl' vr (vn))))) (Ctr.mat 3 rg 3000000 2 rfl (by decide) (fun g2 => ctrX ((sx_c (atL (k := 3000000) rfl) (sx_n)).trans setL.symm) (ref15_paths__e_ctr (dk_c (ni_n) (dk_n)) h fun u g3 h => ?_))))
  refine Wl.eqS (sy_c (sx_n) setL) ?_
  refine asZ (.sl 2 rg 3000000 g3 0 u.length) rfl (nZ (qZ (qZ (rZ (mvZ (.sl 2 rg 3000000 g3 0 u.length) rfl (wZ rg (o_lenR td84 rfl (wZ rg (o_gtr rfl rfl (nZ ?_))))))))))
  refine Vc.cond' rfl (fun hb => ?_) (fun hb => ?_)
  · replace h := h.1 hb
    refine qZ (rZ (asZ .nil rfl (asZ (.int .i64 4) rfl (nZ ?_))))
    refine Vc.ret' ?_
    refine res_tmp (v := .nil) rfl (res_tmp (v := .int .i64 4) rfl (res_nil ?_))
    show Gives _ (.tuple [.nil, .int .i64 4]) _
    exact gives_out hrg (VW.tupL (vl' (VW.nilL) (vl' vr (vn)))) (hQ _ _ h)
  replace h := h.2 hb
  refine Vc.skip' ?_
  refine qZ (rZ (mvZ (.sl 2 rg 3000000 g3 0 u.length) rfl (asZ (.sl 2 rg 3000000 g3 0 u.length) rfl (asZ (.int .i64 0) rfl (nZ ?_)))))
  refine Vc.ret' ?_
  refine res_tmp (v := .sl 2 rg 3000000 g3 0 u.length) rfl (res_tmp (v := .int .i64 0) rfl (res_nil ?_))
  show Gives _ (.tuple [.sl 2 rg 3000000 g3 0 u.length, .int .i64 0]) _
  refine gives_freeze (k := 3000000) (xs := List.map eCube u) rfl (v' := .tuple [eL eCube u, .int .i64 0]) (VW.tupL (vl' (frz_full rfl) (vl' vr (vn)))) ?_
  exact gives_out hrg (VW.tupL (vl' vr (vl' vr (vn)))) (hQ _ _ h)
end Go.Proofs.Ytllegjdggcmgaaa
