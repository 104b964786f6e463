/- Walks of functions. Conditions: none. -/
import Derived.Test.YtiamkdpljeemkaaWa
import Derived.Test.YtiamkdpljeemkaaGgTy
import Derived.Test.YtiamkdpljeemkaaK3
import Derived.Test.YtiamkdpljeemkaaK5
/- Walks of functions. Conditions: none. -/
namespace Go.Proofs.Ytiamkdpljeemkaa
open Go.Gg
set_option maxRecDepth 100000
theorem diagram_Support_ctr {d : GDiagram} {Q : Int → Option Int → Prop} {S : St} {R : AV → St → Prop} (h : diagram_Support_W d Q) (hQ : ∀ r1 r2, Q r1 r2 → R (.tuple [AV.int .i64 r1, eErr 73 r2]) S) :
    Ctr Try.prog 30 [eDiagram d] S R := by
  unfold diagram_Support_W at h
  refine enterT Try.func30 rfl Try.ntmps30 Try.results30 (by kernel_rfl) (fun rg hrg => ?_)
  refine qZ (rZ (wZ rg (o_box (v := eDiagram d) rfl rfl (kk := 3) rfl (by decide) (fun g1 => (asZ (.int .i64 0) rfl (asZ .niface rfl (nZ (qZ (qZ (rZ (wZ rg (o_loadBA (atL (k := 1) rfl) sz30 (by decide) ag30 rfl rfl (v := eDiagram d) rfl (wZ rg (o_call (us := [eDiagram d]) rfl (vl' vr (vn)) (diagram_Check_ctr h fun err h => (asZ (eErr 73 err) rfl (nZ (qZ (rZ (mvZ (eErr 73 err) rfl ?_))))))))))))))))))))
  refine wZ rg (o_isnon td32 (E := 73) rfl rfl rfl (nZ ?_))
  refine Vc.cond' rfl (fun hb => ?_) (fun hb => ?_)
  · replace h := h.1 hb
    refine qZ (rZ (mvZ (eErr 73 err) rfl (asZ (.int .i64 0) rfl (asZ (eErr 73 err) rfl (nZ ?_)))))
    refine Vc.ret' ?_
    refine res_tmp (v := .int .i64 0) rfl (res_tmp (v := eErr 73 err) rfl (res_nil ?_))
    show Gives _ (.tuple [.int .i64 0, eErr 73 err]) _
    exact gives_out hrg (VW.tupL (vl' vr (vl' vr (vn)))) (hQ _ _ h)
  replace h := h.2 hb
  refine Vc.skip' ?_
  refine qZ (rZ (asZ (.int .i64 0) rfl (nZ (qZ (qZ (rZ (wZ rg (o_faP td30 rfl rfl (by rw [sz28]; decide) rfl (wZ rg (o_loadB1 (atL (k := 1) rfl) sz28 ag28 rfl rfl (v := eL eDNode d.Nodes) rfl (wZ rg (o_len td28 rfl (mvZ (.int .i64 0) rfl (nZ ?_))))))))))))))
  refine Vc.blk ?_
  obtain ⟨I, μ, h0, hI⟩ := h
  refine Vc.loop' (σ := (Int × Int)) (fun y => I y) (fun y => μ y) (fun y => envOf [(5, .int .i64 y.1), (14, eL eDNode d.Nodes), (15, .int .i64 (d.Nodes.length : Int)), (16, .int .i64 y.2)]) (fun y => stL S rg []) (0, 0) (canon (fc vr (fc vr (fc vr (fc vr (fn))))) (sn)) h0 (fun y h => ?_)
  obtain ⟨out, x⟩ := y
  replace h := hI (out, x) h
  show Vc _ _ _ _ (envOf [(5, .int .i64 out), (14, eL eDNode d.Nodes), (15, .int .i64 (d.Nodes.length : Int)), (16, .int .i64 x)]) (stL S rg [])
  refine qZ (rZ (wZ rg (o_lss rfl rfl (nZ (qZ ?_)))))
  refine Vc.cond' rfl (fun hb1 => ?_) (fun hb1 => ?_)
  · replace h := h.1 hb1
    refine Vc.skip' ?_
    refine qZ ?_
    refine Vc.blk ?_
    refine qZ (rZ (wZ rg (o_idxL td28 sz97 (by decide) (fun _ => rfl) rfl rfl h.1 ?_)))
    replace h := h.2
    refine wZ rg (o_loadIA sz97 (by decide) ag97 rfl rfl (v := eDNode (at' d.Nodes x)) rfl (wZ rg (o_alloc zav97 ok97 (kk := 3) rfl (fun g2 => (wZ rg (o_storeB (atL (k := 7) rfl) sz97 (by decide) rfl (w := eDNode (at' d.Nodes x)) rfl rfl rfl (v := eDNode (at' d.Nodes x)) rfl setL (nZ (rZ (mvZ (.int .i64 out) rfl (wZ rg (o_faP td97 rfl rfl (by rw [sz3]; decide) rfl ?_)))))))))))
    refine wZ rg (o_loadB1 (atL (k := 7) rfl) sz3 ag3 rfl rfl (v := .int .i64 ((at' d.Nodes x).Var)) rfl (wZ rg (o_shlG rfl rfl h.1 ?_)))
    replace h := h.2
    refine wZ rg (o_or rfl rfl ?_)
    obtain ⟨out1, hs⟩ : ∃ qz : Int, qz = (bits .or .i64 out (1 * 2 ^ (Int.toNat ((at' d.Nodes x).Var)))) := ⟨_, rfl⟩
    replace h := h out1 hs
    refine wZ rg (o_assign (v := .int .i64 out1) (by subst hs; rfl) (nZ (rZ (wZ rg (o_addG rfl rfl h.1 ?_)))))
    replace h := h.2
    refine mvZ (.int .i64 (x + 1)) rfl (nZ ?_)
    exact ⟨(out1, (x + 1)), (canon (fc vr (fc vr (fc vr (fc vr (fn))))) (sn)), h⟩
  replace h := h.2 hb1
  refine Vc.exit' (exB_self ?_)
  refine qZ (rZ (mvZ (.int .i64 out) rfl (asZ (.int .i64 out) rfl (asZ .niface rfl (nZ ?_)))))
  refine Vc.ret' ?_
  refine res_tmp (v := .int .i64 out) rfl (res_tmp (v := .niface) rfl (res_nil ?_))
  show Gives _ (.tuple [.int .i64 out, .niface]) _
  exact gives_out hrg (VW.tupL (vl' vr (vl' vr (vn)))) (hQ _ _ h)
end Go.Proofs.Ytiamkdpljeemkaa
/- Walks of functions. Conditions: none. -/
namespace Go.Proofs.Ytiamkdpljeemkaa
open Go.Gg
set_option maxRecDepth 100000
theorem slices_Index___int_int_ctr {s : List Int} {v : Int} {Q : Int → Prop} {S : St} {R : AV → St → Prop} (h : slices_Index___int_int_W s v Q) (hQ : ∀ r1, Q r1 → R (AV.int .i64 r1) S) :
    Ctr Try.prog 85 [eL (AV.int .i64) s, AV.int .i64 v] S R := by
  unfold slices_Index___int_int_W at h
  refine enterT Try.func85 rfl Try.ntmps85 Try.results85 (by kernel_rfl) (fun rg hrg => ?_)
  refine qZ (rZ (asZ (.int .i64 0) rfl (nZ (qZ (qZ (rZ (mvZ (eL (AV.int .i64) s) rfl (wZ rg (o_len td25 rfl (mvZ (.int .i64 0) rfl (nZ ?_)))))))))))
  refine Vc.blk ?_
  obtain ⟨I, μ, h0, hI⟩ := h
  refine Vc.loop' (σ := (Int)) (fun y => I y) (fun y => μ y) (fun y => envOf [(0, eL (AV.int .i64) s), (1, .int .i64 v), (7, .int .i64 (s.length : Int)), (8, .int .i64 y)]) (fun y => stL S rg []) 0 (canon (fc vr (fc vr (fc vr (fc vr (fn))))) (sn)) h0 (fun x h => ?_)
  replace h := hI x h
  show Vc _ _ _ _ (envOf [(0, eL (AV.int .i64) s), (1, .int .i64 v), (7, .int .i64 (s.length : Int)), (8, .int .i64 x)]) (stL S rg [])
  refine qZ (rZ (wZ rg (o_lss rfl rfl (nZ (qZ ?_)))))
  refine Vc.cond' rfl (fun hb => ?_) (fun hb => ?_)
  · replace h := h.1 hb
    refine Vc.skip' ?_
    refine qZ ?_
    refine Vc.blk ?_
    refine qZ (rZ (mvZ (.int .i64 x) rfl (asZ (.int .i64 x) rfl (nZ (qZ (rZ (mvZ (.int .i64 v) rfl (mvZ (eL (AV.int .i64) s) rfl (mvZ (.int .i64 x) rfl (wZ rg (o_idxL td25 sz3 (by decide) (fun _ => rfl) rfl rfl h.1 ?_)))))))))))
    replace h := h.2
    refine wZ rg (o_loadI1 sz3 ag3 rfl rfl (v := .int .i64 (at' s x)) rfl (wZ rg (o_eql rfl rfl (nZ ?_))))
    refine Vc.cond' rfl (fun hb1 => ?_) (fun hb1 => ?_)
    · replace h := h.1 hb1
      refine qZ (rZ (mvZ (.int .i64 x) rfl (asZ (.int .i64 x) rfl (nZ ?_))))
      refine Vc.ret' ?_
      refine res_tmp (v := .int .i64 x) rfl (res_nil ?_)
      show Gives _ (.int .i64 x) _
      exact gives_out hrg (VW.refl _) (hQ _ h)
    replace h := h.2 hb1
    refine Vc.skip' ?_
    refine rZ ?_
    refine wZ rg (o_addG rfl rfl h.1 ?_)
    replace h := h.2
    refine mvZ (.int .i64 (x + 1)) rfl (nZ ?_)
    exact ⟨(x + 1), (canon (fc vr (fc vr (fc vr (fc vr (fn))))) (sn)), h⟩
  replace h := h.2 hb
  refine Vc.exit' (exB_self ?_)
  refine qZ (rZ (asZ (.int .i64 (-1)) rfl (nZ ?_)))
  refine Vc.ret' ?_
  refine res_tmp (v := .int .i64 (-1)) rfl (res_nil ?_)
  show Gives _ (.int .i64 (-1)) _
  exact gives_out hrg (VW.refl _) (hQ _ h)
end Go.Proofs.Ytiamkdpljeemkaa
/- Walks of functions. Conditions: none. -/
namespace Go.Proofs.Ytiamkdpljeemkaa
open Go.Gg
set_option maxRecDepth 100000
theorem diagram_Size_ctr {d : GDiagram} {Q : Int → Option Int → Prop} {S : St} {R : AV → St → Prop} (h : diagram_Size_W d Q) (hQ : ∀ r1 r2, Q r1 r2 → R (.tuple [AV.int .i64 r1, eErr 73 r2]) S) :
    Ctr Try.prog 31 [eDiagram d] S R := by
  unfold diagram_Size_W at h
  refine enterT Try.func31 rfl Try.ntmps31 Try.results31 (by kernel_rfl) (fun rg hrg => ?_)
  refine qZ (rZ (wZ rg (o_box (v := eDiagram d) rfl rfl (kk := 3) rfl (by decide) (fun g1 => (asZ (.int .i64 0) rfl (asZ .niface rfl (nZ (qZ (qZ (rZ (wZ rg (o_loadBA (atL (k := 1) rfl) sz30 (by decide) ag30 rfl rfl (v := eDiagram d) rfl (wZ rg (o_call (us := [eDiagram d]) rfl (vl' vr (vn)) (diagram_Check_ctr h fun err h => (asZ (eErr 73 err) rfl (nZ (qZ (rZ (mvZ (eErr 73 err) rfl ?_))))))))))))))))))))
  refine wZ rg (o_isnon td32 (E := 73) rfl rfl rfl (nZ ?_))
  refine Vc.cond' rfl (fun hb => ?_) (fun hb => ?_)
  · replace h := h.1 hb
    refine qZ (rZ (mvZ (eErr 73 err) rfl (asZ (.int .i64 0) rfl (asZ (eErr 73 err) rfl (nZ ?_)))))
    refine Vc.ret' ?_
    refine res_tmp (v := .int .i64 0) rfl (res_tmp (v := eErr 73 err) rfl (res_nil ?_))
    show Gives _ (.tuple [.int .i64 0, eErr 73 err]) _
    exact gives_out hrg (VW.tupL (vl' vr (vl' vr (vn)))) (hQ _ _ h)
  replace h := h.2 hb
  refine Vc.skip' ?_
  refine qZ (rZ (wZ rg (o_faP td30 rfl rfl (by rw [sz28]; decide) rfl (wZ rg (o_loadB1 (atL (k := 1) rfl) sz28 ag28 rfl rfl (v := eL eDNode d.Nodes) rfl (wZ rg (o_len td28 rfl (asZ (.int .i64 (d.Nodes.length : Int)) rfl (asZ .niface rfl (nZ ?_))))))))))
  refine Vc.ret' ?_
  refine res_tmp (v := .int .i64 (d.Nodes.length : Int)) rfl (res_tmp (v := .niface) rfl (res_nil ?_))
  show Gives _ (.tuple [.int .i64 (d.Nodes.length : Int), .niface]) _
  exact gives_out hrg (VW.tupL (vl' vr (vl' vr (vn)))) (hQ _ _ h)
theorem diagram_Levels_ctr {d : GDiagram} {Q : List Int → Option Int → Prop} {S : St} {R : AV → St → Prop} (h : diagram_Levels_W d Q) (hQ : ∀ r1 r2, Q r1 r2 → R (.tuple [eL (AV.int .i64) r1, eErr 73 r2]) S) :
    Ctr Try.prog 32 [eDiagram d] S R := by
  unfold diagram_Levels_W at h
  refine enterT Try.func32 rfl Try.ntmps32 Try.results32 (by kernel_rfl) (fun rg hrg => ?_)
  refine qZ (rZ (wZ rg (o_box (v := eDiagram d) rfl rfl (kk := 3) rfl (by decide) (fun g1 => (asZ .nil rfl (asZ .niface rfl (nZ (qZ (qZ (rZ (wZ rg (o_loadBA (atL (k := 1) rfl) sz30 (by decide) ag30 rfl rfl (v := eDiagram d) rfl (wZ rg (o_call (us := [eDiagram d]) rfl (vl' vr (vn)) (diagram_Check_ctr h fun err h => (asZ (eErr 73 err) rfl (nZ (qZ (rZ (mvZ (eErr 73 err) rfl ?_))))))))))))))))))))
  refine wZ rg (o_isnon td32 (E := 73) rfl rfl rfl (nZ ?_))
  refine Vc.cond' rfl (fun hb => ?_) (fun hb => ?_)
  · replace h := h.1 hb
    refine qZ (rZ (mvZ (eErr 73 err) rfl (asZ .nil rfl (asZ (eErr 73 err) rfl (nZ ?_)))))
    refine Vc.ret' ?_
    refine res_tmp (v := .nil) rfl (res_tmp (v := eErr 73 err) rfl (res_nil ?_))
    show Gives _ (.tuple [.nil, eErr 73 err]) _
    exact gives_out hrg (VW.tupL (vl' (VW.nilL) (vl' vr (vn)))) (hQ _ _ h)
  replace h := h.2 hb
  refine Vc.skip' ?_
  refine qZ (rZ (wZ rg (o_faP td30 rfl rfl (by rw [sz25]; decide) rfl (wZ rg (o_loadB1 (atL (k := 1) rfl) sz25 ag25 rfl rfl (v := eL (AV.int .i64) d.Order) rfl (wZ rg (o_len td25 rfl (wZ rg (o_make td25 bts3 ok3 (enc := AV.int .i64) (z' := 0) zav3 (kk := 1) rfl rfl rfl h.1 (fun g2 => ?_))))))))))
  replace h := h.2
  refine asZ (.sl 1 rg 16 g2 0 (Int.toNat (d.Order.length : Int))) rfl (nZ (qZ (qZ (rZ (wZ rg (o_faP td30 rfl rfl (by rw [sz28]; decide) rfl (wZ rg (o_loadB1 (atL (k := 1) rfl) sz28 ag28 rfl rfl (v := eL eDNode d.Nodes) rfl (wZ rg (o_len td28 rfl (mvZ (.int .i64 0) rfl (nZ ?_))))))))))))
  refine Vc.blk ?_
  obtain ⟨I, μ, h0, hI⟩ := h
  refine Vc.loop' (σ := (Int × (List Int))) (fun y => I y) (fun y => μ y) (fun y => envOf [(1, .ptr rg 1 g1 0 0), (5, .sl 1 rg 16 g2 0 y.2.length), (18, eL eDNode d.Nodes), (19, .int .i64 (d.Nodes.length : Int)), (20, .int .i64 y.1)]) (fun y => stL S rg [(1, .arr 3 [eDiagram d], g1), (16, .arr 1 (List.map (AV.int .i64) y.2), g2)]) (0, (rep' (d.Order.length : Int) 0)) (canon (fc vr (fc (VW.slen (by first | rfl | omega | (simp only [go_sem] <;> omega))) (fc vr (fc vr (fc vr (fn)))))) (sc rfl (sc rfl (sn)))) h0 (fun y h => ?_)
  obtain ⟨x, out⟩ := y
  replace h := hI (x, out) h
  show Vc _ _ _ _ (envOf [(1, .ptr rg 1 g1 0 0), (5, .sl 1 rg 16 g2 0 out.length), (18, eL eDNode d.Nodes), (19, .int .i64 (d.Nodes.length : Int)), (20, .int .i64 x)]) (stL S rg [(1, .arr 3 [eDiagram d], g1), (16, .arr 1 (List.map (AV.int .i64) out), g2)])
  refine qZ (rZ (wZ rg (o_lss rfl rfl (nZ (qZ ?_)))))
  refine Vc.cond' rfl (fun hb1 => ?_) (fun hb1 => ?_)
  · replace h := h.1 hb1
    refine Vc.skip' ?_
    refine qZ ?_
    refine Vc.blk ?_
    refine qZ (rZ (wZ rg (o_idxL td28 sz97 (by decide) (fun _ => rfl) rfl rfl h.1 ?_)))
    replace h := h.2
    refine wZ rg (o_loadIA sz97 (by decide) ag97 rfl rfl (v := eDNode (at' d.Nodes x)) rfl (wZ rg (o_alloc zav97 ok97 (kk := 3) rfl (fun g3 => (wZ rg (o_storeB (atL (k := 7) rfl) sz97 (by decide) rfl (w := eDNode (at' d.Nodes x)) rfl rfl rfl (v := eDNode (at' d.Nodes x)) rfl setL (nZ (rZ (mvZ (.sl 1 rg 16 g2 0 out.length) rfl (wZ rg (o_faP td30 rfl rfl (by rw [sz25]; decide) rfl ?_)))))))))))
    refine wZ rg (o_loadB1 (atL (k := 1) rfl) sz25 ag25 rfl rfl (v := eL (AV.int .i64) d.Order) rfl (wZ rg (o_faP td97 rfl rfl (by rw [sz3]; decide) rfl (wZ rg (o_loadB1 (atL (k := 7) rfl) sz3 ag3 rfl rfl (v := .int .i64 ((at' d.Nodes x).Var)) rfl (wZ rg (o_call (us := [eL (AV.int .i64) d.Order, AV.int .i64 ((at' d.Nodes x).Var)]) rfl (vl' vr (vl' vr (vn))) (slices_Index___int_int_ctr h fun r h => ?_))))))))
    refine wZ rg (o_idxR0 td25 sz3 (by decide) rfl rfl h.1 ?_)
    have hi := h.1
    replace h := h.2
    refine wZ rg (o_loadR1 (atL (k := 16) rfl) sz3 ag3 rfl (lt_of hi (by first | rfl | omega | (simp only [go_sem] <;> omega))) rfl (v := .int .i64 (at' out r)) rfl (wZ rg (o_addG rfl rfl h.1 ?_)))
    replace h := h.2
    refine wZ rg (o_idxR0 td25 sz3 (by decide) rfl rfl h.1 ?_)
    have hi1 := h.1
    replace h := h.2
    refine wZ rg (o_storeR1 (atL (k := 16) rfl) sz3 (by decide) (x' := ((at' out r) + 1)) (fun _ => rfl) rfl rfl (lt_of hi1 (by first | rfl | omega | (simp only [go_sem] <;> omega))) rfl rfl setL (nZ (rZ (wZ rg (o_addG rfl rfl h.1 ?_)))))
    replace h := h.2
    refine mvZ (.int .i64 (x + 1)) rfl (nZ ?_)
    exact ⟨((x + 1), (set' out r ((at' out r) + 1))), (canon (fc vr (fc (VW.slen (by first | rfl | omega | (simp only [go_sem] <;> omega))) (fc vr (fc vr (fc vr (fn)))))) (sc rfl (sc rfl (sn)))), h⟩
  replace h := h.2 hb1
  refine Vc.exit' (exB_self ?_)
  refine qZ (rZ (mvZ (.sl 1 rg 16 g2 0 out.length) rfl (asZ (.sl 1 rg 16 g2 0 out.length) rfl (asZ .niface rfl (nZ ?_)))))
  refine Vc.ret' ?_
  refine res_tmp (v := .sl 1 rg 16 g2 0 out.length) rfl (res_tmp (v := .niface) rfl (res_nil ?_))
  show Gives _ (.tuple [.sl 1 rg 16 g2 0 out.length, .niface]) _
  refine gives_freeze (k := 16) (xs := List.map (AV.int .i64) out) rfl (v' := .tuple [eL (AV.int .i64) out, .niface]) (VW.tupL (vl' (frz_full rfl) (vl' vr (vn)))) ?_
  exact gives_out hrg (VW.tupL (vl' vr (vl' vr (vn)))) (hQ _ _ h)
end Go.Proofs.Ytiamkdpljeemkaa
/- Walks of functions. Conditions: none. -/
namespace Go.Proofs.Ytiamkdpljeemkaa
open Go.Gg
set_option maxRecDepth 100000
theorem truth_Relevant_ctr {f : GFormula} {Q : Int → Option Int → Prop} {S : St} {R : AV → St → Prop} (h : truth_Relevant_W f Q) (hQ : ∀ r1 r2, Q r1 r2 → R (.tuple [AV.int .i64 r1, eErr 73 r2]) S) :
    Ctr Try.prog 33 [eFormula f] S R := by
  unfold truth_Relevant_W at h
  refine enterT Try.func33 rfl Try.ntmps33 Try.results33 (by kernel_rfl) (fun rg hrg => ?_)
  refine qZ (rZ (wZ rg (o_box (v := eFormula f) rfl rfl (kk := 3) rfl (by decide) (fun g1 => (asZ (.int .i64 0) rfl (asZ .niface rfl (nZ (qZ (rZ (wZ rg (o_loadBA (atL (k := 1) rfl) sz24 (by decide) ag24 rfl rfl (v := eFormula f) rfl (wZ rg (o_call (us := [eFormula f]) rfl (vl' vr (vn)) (truth_Table_ctr h fun r r1 h => (mvZ (.tuple [eL AV.bool r, eErr 73 r1]) rfl ?_)))))))))))))))
  refine wZ rg (o_extract (v := eL AV.bool r) rfl rfl rfl (wZ rg (o_extract (v := eErr 73 r1) rfl rfl rfl (asZ (eL AV.bool r) rfl (asZ (eErr 73 r1) rfl (nZ (qZ (qZ (rZ (mvZ (eErr 73 r1) rfl (wZ rg (o_isnon td32 (E := 73) rfl rfl rfl (nZ ?_)))))))))))))
  refine Vc.cond' rfl (fun hb => ?_) (fun hb => ?_)
  · replace h := h.1 hb
    refine qZ (rZ (mvZ (eErr 73 r1) rfl (asZ (.int .i64 0) rfl (asZ (eErr 73 r1) rfl (nZ ?_)))))
    refine Vc.ret' ?_
    refine res_tmp (v := .int .i64 0) rfl (res_tmp (v := eErr 73 r1) rfl (res_nil ?_))
    show Gives _ (.tuple [.int .i64 0, eErr 73 r1]) _
    exact gives_out hrg (VW.tupL (vl' vr (vl' vr (vn)))) (hQ _ _ h)
  replace h := h.2 hb
  refine Vc.skip' ?_
  refine qZ (rZ (asZ (.int .i64 0) rfl (nZ (qZ (qZ (rZ (mvZ (eL AV.bool r) rfl (wZ rg (o_len td110 rfl (mvZ (.int .i64 0) rfl (nZ ?_)))))))))))
  refine Vc.blk ?_
  obtain ⟨I, μ, h0, hI⟩ := h
  refine Vc.loop' (σ := (Int × Int)) (fun y => I y) (fun y => μ y) (fun y => envOf [(1, .ptr rg 1 g1 0 0), (4, eL AV.bool r), (6, .int .i64 y.1), (18, eL AV.bool r), (19, .int .i64 (r.length : Int)), (20, .int .i64 y.2)]) (fun y => stL S rg [(1, .arr 3 [eFormula f], g1)]) (0, 0) (canon (fc vr (fc vr (fc vr (fc vr (fc vr (fc vr (fn))))))) (sc rfl (sn))) h0 (fun y h => ?_)
  obtain ⟨out, x⟩ := y
  replace h := hI (out, x) h
  show Vc _ _ _ _ (envOf [(1, .ptr rg 1 g1 0 0), (4, eL AV.bool r), (6, .int .i64 out), (18, eL AV.bool r), (19, .int .i64 (r.length : Int)), (20, .int .i64 x)]) (stL S rg [(1, .arr 3 [eFormula f], g1)])
  refine qZ (rZ (wZ rg (o_lss rfl rfl (nZ (qZ ?_)))))
  refine Vc.cond' rfl (fun hb1 => ?_) (fun hb1 => ?_)
  · replace h := h.1 hb1
    refine Vc.skip' ?_
    refine qZ ?_
    refine Vc.blk ?_
    refine qZ (rZ (mvZ (.int .i64 x) rfl (wZ rg (o_idxL td110 sz4 (by decide) (fun _ => rfl) rfl rfl h.1 ?_))))
    replace h := h.2
    refine wZ rg (o_loadI1 sz4 ag4 rfl rfl (v := .bool (at' r x)) rfl (asZ (.int .i64 x) rfl (asZ (.bool (at' r x)) rfl (nZ (qZ (rZ (wZ rg (o_faP td24 rfl rfl (by rw [sz3]; decide) rfl (wZ rg (o_loadB1 (atL (k := 1) rfl) sz3 ag3 rfl rfl (v := .int .i64 f.Vars) rfl (mvZ (.int .i64 0) rfl (nZ ?_))))))))))))
    refine Vc.blk ?_
    obtain ⟨I, μ, h0, hI⟩ := h
    refine Vc.loop' (σ := (Int × Int)) (fun y => I y) (fun y => μ y) (fun y => envOf [(1, .ptr rg 1 g1 0 0), (4, eL AV.bool r), (6, .int .i64 y.1), (7, .int .i64 x), (8, .bool (at' r x)), (18, eL AV.bool r), (19, .int .i64 (r.length : Int)), (20, .int .i64 x), (26, .int .i64 f.Vars), (27, .int .i64 y.2)]) (fun y => stL S rg [(1, .arr 3 [eFormula f], g1)]) (out, 0) (canon (fc vr (fc vr (fc vr (fc vr (fc vr (fc vr (fc vr (fc vr (fc vr (fc vr (fn))))))))))) (sc rfl (sn))) h0 (fun y h => ?_)
    obtain ⟨out1, x1⟩ := y
    replace h := hI (out1, x1) h
    show Vc _ _ _ _ (envOf [(1, .ptr rg 1 g1 0 0), (4, eL AV.bool r), (6, .int .i64 out1), (7, .int .i64 x), (8, .bool (at' r x)), (18, eL AV.bool r), (19, .int .i64 (r.length : Int)), (20, .int .i64 x), (26, .int .i64 f.Vars), (27, .int .i64 x1)]) (stL S rg [(1, .arr 3 [eFormula f], g1)])
    refine qZ (rZ (wZ rg (o_lss rfl rfl (nZ (qZ ?_)))))
    refine Vc.cond' rfl (fun hb2 => ?_) (fun hb2 => ?_)
    · replace h := h.1 hb2
      refine Vc.skip' ?_
      refine qZ ?_
      refine Vc.blk ?_
      refine qZ (rZ (mvZ (.int .i64 x1) rfl (asZ (.int .i64 x1) rfl (nZ (qZ (rZ (mvZ (.bool (at' r x)) rfl (mvZ (eL AV.bool r) rfl (mvZ (.int .i64 x) rfl (mvZ (.int .i64 x1) rfl (wZ rg (o_shlG rfl rfl h.1 ?_))))))))))))
      replace h := h.2
      refine wZ rg (o_or rfl rfl (wZ rg (o_idxL td110 sz4 (by decide) (fun _ => rfl) rfl rfl h.1 ?_)))
      replace h := h.2
      refine wZ rg (o_loadI1 sz4 ag4 rfl rfl (v := .bool (at' r (bits .or .i64 x (1 * 2 ^ (Int.toNat x1))))) rfl (wZ rg (o_neqB td4 rfl rfl (nZ ?_))))
      refine Vc.cond' rfl (fun hb3 => ?_) (fun hb3 => ?_)
      · replace h := h.1 hb3
        refine rZ ?_
        refine mvZ (.int .i64 out1) rfl (mvZ (.int .i64 x1) rfl (wZ rg (o_shlG rfl rfl h.1 ?_)))
        replace h := h.2
        refine wZ rg (o_or rfl rfl ?_)
        obtain ⟨out2, hs⟩ : ∃ qz : Int, qz = (bits .or .i64 out1 (1 * 2 ^ (Int.toNat x1))) := ⟨_, rfl⟩
        replace h := h out2 hs
        refine wZ rg (o_assign (v := .int .i64 out2) (by subst hs; rfl) (nZ (rZ (wZ rg (o_addG rfl rfl h.1 ?_)))))
        replace h := h.2
        refine mvZ (.int .i64 (x1 + 1)) rfl (nZ ?_)
        exact ⟨(out2, (x1 + 1)), (canon (fc vr (fc vr (fc vr (fc vr (fc vr (fc vr (fc vr (fc vr (fc vr (fc vr (fn))))))))))) (sc rfl (sn))), h⟩
      replace h := h.2 hb3
      refine Vc.skip' ?_
      refine rZ ?_
      refine wZ rg (o_addG rfl rfl h.1 ?_)
      replace h := h.2
      refine mvZ (.int .i64 (x1 + 1)) rfl (nZ ?_)
      exact ⟨(out1, (x1 + 1)), (canon (fc vr (fc vr (fc vr (fc vr (fc vr (fc vr (fc vr (fc vr (fc vr (fc vr (fn))))))))))) (sc rfl (sn))), h⟩
    replace h := h.2 hb2
    refine Vc.exit' (exB_self ?_)
    refine rZ ?_
    refine wZ rg (o_addG rfl rfl h.1 ?_)
    replace h := h.2
    refine mvZ (.int .i64 (x + 1)) rfl (nZ ?_)
    exact ⟨(out1, (x + 1)), (canon (fc vr (fc vr (fc vr (fc vr (fc vr (fc vr (fn))))))) (sc rfl (sn))), h⟩
  replace h := h.2 hb1
  refine Vc.exit' (exB_self ?_)
  refine qZ (rZ (mvZ (.int .i64 out) rfl (asZ (.int .i64 out) rfl (asZ .niface rfl (nZ ?_)))))
  refine Vc.ret' ?_
  refine res_tmp (v := .int .i64 out) rfl (res_tmp (v := .niface) rfl (res_nil ?_))
  show Gives _ (.tuple [.int .i64 out, .niface]) _
  exact gives_out hrg (VW.tupL (vl' vr (vl' vr (vn)))) (hQ _ _ h)
end Go.Proofs.Ytiamkdpljeemkaa
