/- Walks of functions. Conditions: none. -/
import Derived.Test.YtllegjdggcmgaaaWa
import Derived.Test.YtllegjdggcmgaaaGgTy
import Derived.Test.YtllegjdggcmgaaaGd
import Derived.Test.YtllegjdggcmgaaaK1
import Derived.Test.YtllegjdggcmgaaaK2
/- Walks of functions. Conditions: none. -/
namespace Go.Proofs.Ytllegjdggcmgaaa
open Go.Gg
set_option maxRecDepth 100000
theorem algebra_Count_ctr {d : GDiagram} {Q : Int → Option Int → Prop} {S : St} {R : AV → St → Prop} (h : algebra_Count_W d Q) (hQ : ∀ r1 r2, Q r1 r2 → R (.tuple [AV.int .i64 r1, eErr 83 r2]) S) :
    Ctr Try.prog 36 [eDiagram d] S R := by
  unfold algebra_Count_W at h
  refine enterT Try.func36 rfl Try.ntmps36 Try.results36 (by kernel_rfl) (fun rg hrg => ?_)
  refine qZ (rZ (wZ rg (o_box (v := eDiagram d) rfl rfl (kk := 3) rfl (by decide) (fun g1 => (asZ (.int .i64 0) rfl (asZ .niface rfl (nZ (qZ (qZ (rZ (wZ rg (o_loadBA (atL (k := 1) rfl) sz25 (by decide) ag25 rfl rfl (v := eDiagram d) rfl (wZ rg (o_call (us := [eDiagram d]) rfl (vl' vr (vn)) (diagram_Check_ctr h fun err h => (asZ (eErr 83 err) rfl (nZ (qZ (rZ (mvZ (eErr 83 err) rfl ?_))))))))))))))))))))
  refine wZ rg (o_isnon td29 (E := 83) rfl rfl rfl (nZ ?_))
  refine Vc.cond' rfl (fun hb => ?_) (fun hb => ?_)
  · replace h := h.1 hb
    refine qZ (rZ (mvZ (eErr 83 err) rfl (asZ (.int .i64 0) rfl (asZ (eErr 83 err) rfl (nZ ?_)))))
    refine Vc.ret' ?_
    refine res_tmp (v := .int .i64 0) rfl (res_tmp (v := eErr 83 err) rfl (res_nil ?_))
    show Gives _ (.tuple [.int .i64 0, eErr 83 err]) _
    exact gives_out hrg (VW.tupL (vl' vr (vl' vr (vn)))) (hQ _ _ h)
  replace h := h.2 hb
  refine Vc.skip' ?_
  refine qZ (rZ (wZ rg (o_faP td25 rfl rfl (by rw [sz22]; decide) rfl (wZ rg (o_loadB1 (atL (k := 1) rfl) sz22 ag22 rfl rfl (v := eL (AV.int .i64) d.Order) rfl (wZ rg (o_len td22 rfl (asZ (.int .i64 (d.Order.length : Int)) rfl (nZ (qZ (rZ (wZ rg (o_faP td25 rfl rfl (by rw [sz23]; decide) rfl (wZ rg (o_loadB1 (atL (k := 1) rfl) sz23 ag23 rfl rfl (v := eL eDNode d.Nodes) rfl ?_)))))))))))))))
  refine wZ rg (o_len td23 rfl (wZ rg (o_addG rfl rfl h.1 ?_)))
  replace h := h.2
  refine wZ rg (o_make td22 bts3 ok3 (enc := AV.int .i64) (z' := 0) zav3 (kk := 1) rfl rfl rfl h.1 (fun g2 => ?_))
  replace h := h.2
  refine asZ (.sl 1 rg 21 g2 0 (Int.toNat (2 + (d.Nodes.length : Int)))) rfl (nZ (qZ (rZ (mvZ (.sl 1 rg 21 g2 0 (Int.toNat (2 + (d.Nodes.length : Int)))) rfl (mvZ (.int .i64 (d.Order.length : Int)) rfl (wZ rg (o_shlG rfl rfl h.1 ?_)))))))
  replace h := h.2
  refine wZ rg (o_idxR0 td22 sz3 (by decide) rfl rfl h.1 ?_)
  have hi := h.1
  replace h := h.2
  refine wZ rg (o_storeR1 (atL (k := 21) rfl) sz3 (by decide) (x' := (1 * 2 ^ (Int.toNat (d.Order.length : Int)))) (fun _ => rfl) rfl rfl (lt_of hi (by first | rfl | omega | (simp only [go_sem] <;> omega))) rfl rfl setL (nZ (qZ (qZ (rZ (wZ rg (o_faP td25 rfl rfl (by rw [sz23]; decide) rfl (wZ rg (o_loadB1 (atL (k := 1) rfl) sz23 ag23 rfl rfl (v := eL eDNode d.Nodes) rfl (wZ rg (o_len td23 rfl ?_)))))))))))
  refine mvZ (.int .i64 0) rfl (nZ ?_)
  refine Vc.blk ?_
  obtain ⟨I, μ, h0, hI⟩ := h
  refine Vc.loop' (σ := (Int × (List Int))) (fun y => I y) (fun y => μ y) (fun y => envOf [(1, .ptr rg 1 g1 0 0), (6, .sl 1 rg 21 g2 0 y.2.length), (27, eL eDNode d.Nodes), (28, .int .i64 (d.Nodes.length : Int)), (29, .int .i64 y.1)]) (fun y => stL S rg [(1, .arr 3 [eDiagram d], g1), (21, .arr 1 (List.map (AV.int .i64) y.2), g2)]) (0, (set' (rep' (2 + (d.Nodes.length : Int)) 0) 1 (1 * 2 ^ (Int.toNat (d.Order.length : Int))))) (canon (fc vr (fc (VW.slen (by first | rfl | omega | (simp only [go_sem] <;> omega))) (fc vr (fc vr (fc vr (fn)))))) (sc rfl (sc rfl (sn)))) h0 (fun y h => ?_)
  obtain ⟨x, states⟩ := y
  replace h := hI (x, states) h
  show Vc _ _ _ _ (envOf [(1, .ptr rg 1 g1 0 0), (6, .sl 1 rg 21 g2 0 states.length), (27, eL eDNode d.Nodes), (28, .int .i64 (d.Nodes.length : Int)), (29, .int .i64 x)]) (stL S rg [(1, .arr 3 [eDiagram d], g1), (21, .arr 1 (List.map (AV.int .i64) states), g2)])
  refine qZ (rZ (wZ rg (o_lss rfl rfl (nZ (qZ ?_)))))
  refine Vc.cond' rfl (fun hb1 => ?_) (fun hb1 => ?_)
  · replace h := h.1 hb1
    refine Vc.skip' ?_
    refine qZ ?_
    refine Vc.blk ?_
    refine qZ (rZ (mvZ (.int .i64 x) rfl (wZ rg (o_idxL td23 sz134 (by decide) (fun _ => rfl) rfl rfl h.1 ?_))))
    replace h := h.2
    refine wZ rg (o_loadIA sz134 (by decide) ag134 rfl rfl (v := eDNode (at' d.Nodes x)) rfl (wZ rg (o_alloc zav134 ok134 (kk := 3) rfl (fun g3 => (asZ (.int .i64 x) rfl (wZ rg (o_storeB (atL (k := 8) rfl) sz134 (by decide) rfl (w := eDNode (at' d.Nodes x)) rfl rfl rfl (v := eDNode (at' d.Nodes x)) rfl setL (nZ ?_))))))))
    have hg := h.1
    replace h := h.2
    have hi1 := h.1
    replace h := h.2
    have hi2 := h.1
    replace h := h.2
    have hg1 := h.1
    replace h := h.2
    have hg2 := h.1
    replace h := h.2
    have hi3 := h.1
    replace h := h.2
    refine Vc.drawn' mixed rg (fun _ => jcr2) (by kernel_rfl) ?_
    refine dP rfl rfl (o_move (v := .sl 1 rg 21 g2 0 states.length) rfl (dP rfl rfl (o_move (v := .int .i64 x) rfl (dP rfl rfl (o_addG rfl rfl hg (dP rfl rfl (o_move (v := .sl 1 rg 21 g2 0 states.length) rfl (dP rfl rfl (o_faP td134 rfl rfl (by rw [sz3]; decide) rfl ?_)))))))))
    refine dL (E := ([(rg, 8)], [])) rfl rfl (by simp) (cfn) (o_loadB1 (atL (k := 8) rfl) sz3 ag3 rfl rfl (v := .int .i64 ((at' d.Nodes x).Lo)) rfl (dP rfl rfl (o_idxR0 td22 sz3 (by decide) rfl rfl hi1 ?_)))
    refine dL (E := ([(rg, 21)], [])) rfl rfl (by simp) (cfo (by kernel_rfl) (cfn)) (o_loadR1 (atL (k := 21) rfl) sz3 ag3 rfl (lt_of hi1 (by first | rfl | omega | (simp only [go_sem] <;> omega))) rfl (v := .int .i64 (at' states ((at' d.Nodes x).Lo))) rfl (dP rfl rfl (o_move (v := .sl 1 rg 21 g2 0 states.length) rfl (dP rfl rfl (o_faP td134 rfl rfl (by rw [sz3]; decide) rfl ?_)))))
    refine dL (E := ([(rg, 8)], [])) rfl rfl (by simp) (cfa (by simp [apartE]) (cfa (by simp [apartE]) (cfn))) (o_loadB1 (atL (k := 8) rfl) sz3 ag3 rfl rfl (v := .int .i64 ((at' d.Nodes x).Hi)) rfl (dP rfl rfl (o_idxR0 td22 sz3 (by decide) rfl rfl hi2 ?_)))
    refine dL (E := ([(rg, 21)], [])) rfl rfl (by simp) (cfo (by kernel_rfl) (cfa (by simp [apartE]) (cfa (by simp [apartE]) (cfn)))) (o_loadR1 (atL (k := 21) rfl) sz3 ag3 rfl (lt_of hi2 (by first | rfl | omega | (simp only [go_sem] <;> omega))) rfl (v := .int .i64 (at' states ((at' d.Nodes x).Hi))) rfl (dP rfl rfl (o_addG rfl rfl hg1 (dP rfl rfl (o_quoG rfl rfl ⟨by decide, hg2⟩ ?_)))))
    refine dP rfl rfl (o_idxR0 td22 sz3 (by decide) rfl rfl hi3 ?_)
    refine dL (E := ([], [(rg, 21)])) rfl rfl (by simp) (cfo (by kernel_rfl) (cfo (by kernel_rfl) (cfo (by kernel_rfl) (cfo (by kernel_rfl) (cfn))))) (o_storeR1 (atL (k := 21) rfl) sz3 (by decide) (x' := (Int.tdiv ((at' states ((at' d.Nodes x).Lo)) + (at' states ((at' d.Nodes x).Hi))) 2)) (fun _ => rfl) rfl rfl (lt_of hi3 (by first | rfl | omega | (simp only [go_sem] <;> omega))) rfl rfl setL (dN (rZ ?_)))
    refine wZ rg (o_addG rfl rfl h.1 ?_)
    replace h := h.2
    refine mvZ (.int .i64 (x + 1)) rfl (nZ ?_)
    exact ⟨((x + 1), (set' states (2 + x) (Int.tdiv ((at' states ((at' d.Nodes x).Lo)) + (at' states ((at' d.Nodes x).Hi))) 2))), (canon (fc vr (fc (VW.slen (by first | rfl | omega | (simp only [go_sem] <;> omega))) (fc vr (fc vr (fc vr (fn)))))) (sc rfl (sc rfl (sn)))), h⟩
  replace h := h.2 hb1
  refine Vc.exit' (exB_self ?_)
  refine qZ (rZ (mvZ (.sl 1 rg 21 g2 0 states.length) rfl (wZ rg (o_faP td25 rfl rfl (by rw [sz3]; decide) rfl (wZ rg (o_loadB1 (atL (k := 1) rfl) sz3 ag3 rfl rfl (v := .int .i64 d.Root) rfl (wZ rg (o_idxR0 td22 sz3 (by decide) rfl rfl h.1 ?_))))))))
  have hi4 := h.1
  replace h := h.2
  refine wZ rg (o_loadR1 (atL (k := 21) rfl) sz3 ag3 rfl (lt_of hi4 (by first | rfl | omega | (simp only [go_sem] <;> omega))) rfl (v := .int .i64 (at' states d.Root)) rfl (asZ (.int .i64 (at' states d.Root)) rfl (asZ .niface rfl (nZ ?_))))
  refine Vc.ret' ?_
  refine res_tmp (v := .int .i64 (at' states d.Root)) rfl (res_tmp (v := .niface) rfl (res_nil ?_))
  show Gives _ (.tuple [.int .i64 (at' states d.Root), .niface]) _
  exact gives_out hrg (VW.tupL (vl' vr (vl' vr (vn)))) (hQ _ _ h)
theorem algebra_open_ctr {list : List GDiagram} (qr kr0 kr1 kr2 kr3 kr4 kr5 : Nat) {Q : Option ((List Int) × (List Int) × (List GDNode) × (GMap Int) × (GMap Int)) → List Int → Option Int → Prop} {S : St} {R : AV → St → Prop} (h : algebra_open_W list Q) (hN : ∀ r2 r3, Q none r2 r3 → R (.tuple [.nilp, eL (AV.int .i64) r2, eErr 83 r3]) S) (hQ : ∀ c1 c2 c3 c4 c5 r2 r3 h0 h1 h2 h3 h4 h5, Q (some (c1, c2, c3, c4, c5)) r2 r3 → R (.tuple [.ptr qr kr0 h0 0 0, eL (AV.int .i64) r2, eErr 83 r3]) (stX S [(qr, kr0, .arr 5 [.agg [.sl 1 qr kr1 h1 0 c1.length, .sl 1 qr kr2 h2 0 c2.length, .sl 3 qr kr3 h3 0 c3.length, .map qr kr4 h4, .map qr kr5 h5]], h0), (qr, kr1, .arr 1 (List.map (AV.int .i64) c1), h1), (qr, kr2, .arr 1 (List.map (AV.int .i64) c2), h2), (qr, kr3, .arr 3 (List.map eDNode c3), h3), (qr, kr4, mapE (AV.int .i64) (.many [.i64, .i64, .i64]) c4, h4), (qr, kr5, mapE (AV.int .i64) (.many [.i64, .i64, .i64]) c5, h5)])) :
    Ctr Try.prog 123 [eL eDiagram list] S R := by
  unfold algebra_open_W at h
  refine enterT Try.func123 rfl Try.ntmps123 Try.results123 (by kernel_rfl) (fun rg hrg => ?_)
  refine qZ (rZ (asZ .nilp rfl (asZ .nil rfl (asZ .niface rfl (nZ (qZ (qZ (rZ (mvZ (eL eDiagram list) rfl (wZ rg (o_len td142 rfl (mvZ (.int .i64 0) rfl (nZ ?_)))))))))))))
  refine Vc.blk ?_
  obtain ⟨I, μ, h0, hI⟩ := h
  refine Vc.loop' (σ := (Int)) (fun y => I y) (fun y => μ y) (fun y => envOf [(0, eL eDiagram list), (14, eL eDiagram list), (15, .int .i64 (list.length : Int)), (16, .int .i64 y)]) (fun y => stL S rg []) 0 (canon (fc vr (fc vr (fc vr (fc vr (fn))))) (sn)) h0 (fun x h => ?_)
  replace h := hI x h
  show Vc _ _ _ _ (envOf [(0, eL eDiagram list), (14, eL eDiagram list), (15, .int .i64 (list.length : Int)), (16, .int .i64 x)]) (stL S rg [])
  refine qZ (rZ (wZ rg (o_lss rfl rfl (nZ (qZ ?_)))))
  refine Vc.cond' rfl (fun hb => ?_) (fun hb => ?_)
  · replace h := h.1 hb
    refine Vc.skip' ?_
    refine qZ ?_
    refine Vc.blk ?_
    refine qZ (rZ (wZ rg (o_idxL td142 sz25 (by decide) (fun _ => rfl) rfl rfl h.1 ?_)))
    replace h := h.2
    refine wZ rg (o_loadIA sz25 (by decide) ag25 rfl rfl (v := eDiagram (at' list x)) rfl (wZ rg (o_alloc zav25 ok25 (kk := 3) rfl (fun g1 => (wZ rg (o_storeB (atL (k := 6) rfl) sz25 (by decide) rfl (w := eDiagram (at' list x)) rfl rfl rfl (v := eDiagram (at' list x)) rfl setL (nZ (qZ (rZ (wZ rg (o_loadBA (atL (k := 6) rfl) sz25 (by decide) ag25 rfl rfl (v := eDiagram (at' list x)) rfl ?_)))))))))))
    refine wZ rg (o_call (us := [eDiagram (at' list x)]) rfl (vl' vr (vn)) (diagram_Check_ctr h fun err h => (asZ (eErr 83 err) rfl (nZ (qZ (rZ (mvZ (eErr 83 err) rfl (wZ rg (o_isnon td29 (E := 83) rfl rfl rfl (nZ ?_))))))))))
    refine Vc.cond' rfl (fun hb1 => ?_) (fun hb1 => ?_)
    · replace h := h.1 hb1
      refine qZ (rZ (mvZ (eErr 83 err) rfl (asZ .nilp rfl (asZ .nil rfl (asZ (eErr 83 err) rfl (nZ ?_))))))
      refine Vc.ret' ?_
      refine res_tmp (v := .nilp) rfl (res_tmp (v := .nil) rfl (res_tmp (v := eErr 83 err) rfl (res_nil ?_)))
      show Gives _ (.tuple [.nilp, .nil, eErr 83 err]) _
      exact gives_out hrg (VW.tupL (vl' vr (vl' (VW.nilL) (vl' vr (vn))))) (hN _ _ h)
    replace h := h.2 hb1
    refine Vc.skip' ?_
    refine rZ ?_
    refine wZ rg (o_addG rfl rfl h.1 ?_)
    replace h := h.2
    refine mvZ (.int .i64 (x + 1)) rfl (nZ ?_)
    exact ⟨(x + 1), (canon (fc vr (fc vr (fc vr (fc vr (fn))))) (sn)), h⟩
  replace h := h.2 hb
  refine Vc.exit' (exB_self ?_)
  refine qZ (qZ (rZ (mvZ (eL eDiagram list) rfl (wZ rg (o_sliceL td142 sz25 (by decide) (fun _ => rfl) rfl (l := 1) (h := (list.length : Int)) rfl rfl h.1 ?_)))))
  replace h := h.2
  refine wZ rg (o_len td142 rfl (mvZ (.int .i64 0) rfl (nZ ?_)))
  refine Vc.blk ?_
  obtain ⟨I, μ, h0, hI⟩ := h
  refine Vc.loop' (σ := (Int)) (fun y => I y) (fun y => μ y) (fun y => envOf [(0, eL eDiagram list), (27, eL eDiagram (sub' list 1 (list.length : Int))), (28, .int .i64 ((sub' list 1 (list.length : Int)).length : Int)), (29, .int .i64 y)]) (fun y => stL S rg []) 0 (canon (fc vr (fc vr (fc vr (fc vr (fn))))) (sn)) h0 (fun x1 h => ?_)
  replace h := hI x1 h
  show Vc _ _ _ _ (envOf [(0, eL eDiagram list), (27, eL eDiagram (sub' list 1 (list.length : Int))), (28, .int .i64 ((sub' list 1 (list.length : Int)).length : Int)), (29, .int .i64 x1)]) (stL S rg [])
  refine qZ (rZ (wZ rg (o_lss rfl rfl (nZ (qZ ?_)))))
  refine Vc.cond' rfl (fun hb2 => ?_) (fun hb2 => ?_)
  · replace h := h.1 hb2
    refine Vc.skip' ?_
    refine qZ ?_
    refine Vc.blk ?_
    refine qZ (rZ (wZ rg (o_idxL td142 sz25 (by decide) (fun _ => rfl) rfl rfl h.1 ?_)))
    replace h := h.2
    refine wZ rg (o_loadIA sz25 (by decide) ag25 rfl rfl (v := eDiagram (at' (sub' list 1 (list.length : Int)) x1)) rfl (wZ rg (o_alloc zav25 ok25 (kk := 3) rfl (fun g2 => (wZ rg (o_storeB (atL (k := 9) rfl) sz25 (by decide) rfl (w := eDiagram (at' (sub' list 1 (list.length : Int)) x1)) rfl rfl rfl (v := eDiagram (at' (sub' list 1 (list.length : Int)) x1)) rfl setL (nZ (qZ ?_))))))))
    have hg := h.1
    replace h := h.2
    obtain ⟨r, hc, h⟩ := h
    refine Vc.drawn' mixed rg (usOf [(6, pc (.bool r))]) (by kernel_rfl) ?_
    refine dP rfl rfl (o_faP td25 rfl rfl (by rw [sz22]; decide) rfl (dL (E := ([(rg, 9)], [])) rfl rfl (by simp) (cfn) (o_loadB1 (atL (k := 9) rfl) sz22 ag22 rfl rfl (v := eL (AV.int .i64) ((at' (sub' list 1 (list.length : Int)) x1).Order)) rfl (dP rfl rfl (o_move (v := eL eDiagram list) rfl (dP rfl rfl (o_idxL td142 sz25 (by decide) (fun _ => rfl) rfl rfl hg ?_)))))))
    refine dP rfl rfl (o_fa td25 rfl rfl (by rw [sz22]; decide) rfl rfl (dP rfl rfl (o_loadI1 sz22 ag22 rfl rfl (v := eL (AV.int .i64) ((at' list 0).Order)) rfl ?_)))
    refine dC (vs := [eL (AV.int .i64) ((at' (sub' list 1 (list.length : Int)) x1).Order), eL (AV.int .i64) ((at' list 0).Order)]) rfl (vl' vr (vl' vr (vn))) (fun _ => slices_Equal___int_int_ctr hc (fun _ hr => ⟨by rw [hr], rfl⟩)) rfl ?_
    refine dP rfl rfl (o_not rfl (dN ?_))
    refine Vc.cond' rfl (fun hb3 => ?_) (fun hb3 => ?_)
    · replace h := h.1 hb3
      refine qZ (rZ (wZ rg (o_iface (by rw [td83]; trivial) (v := .int .i64 13) rfl (asZ .nilp rfl (asZ .nil rfl (asZ (.iface 83 (.int .i64 13)) rfl (nZ ?_)))))))
      refine Vc.ret' ?_
      refine res_tmp (v := .nilp) rfl (res_tmp (v := .nil) rfl (res_tmp (v := .iface 83 (.int .i64 13)) rfl (res_nil ?_)))
      show Gives _ (.tuple [.nilp, .nil, .iface 83 (.int .i64 13)]) _
      exact gives_out hrg (VW.tupL (vl' vr (vl' (VW.nilL) (vl' vr (vn))))) (hN _ _ h)
    replace h := h.2 hb3
    refine Vc.skip' ?_
    refine rZ ?_
    refine wZ rg (o_addG rfl rfl h.1 ?_)
    replace h := h.2
    refine mvZ (.int .i64 (x1 + 1)) rfl (nZ ?_)
    exact ⟨(x1 + 1), (canon (fc vr (fc vr (fc vr (fc vr (fn))))) (sn)), h⟩
  replace h := h.2 hb2
  refine Vc.exit' (exB_self ?_)
  refine qZ (rZ (mvZ (eL eDiagram list) rfl (wZ rg (o_idxL td142 sz25 (by decide) (fun _ => rfl) rfl rfl h.1 ?_))))
  replace h := h.2
  refine wZ rg (o_fa td25 rfl rfl (by rw [sz22]; decide) rfl rfl (wZ rg (o_loadI1 sz22 ag22 rfl rfl (v := eL (AV.int .i64) ((at' list 0).Order)) rfl (wZ rg (o_call (us := [eL (AV.int .i64) ((at' list 0).Order)]) rfl (vl' vr (vn)) (decision_New_ctr rg 4800000 4800001 4800002 4800003 4800004 h fun order place unique memo g3 g4 g5 g6 g7 h => ?_))))))
  refine Wl.eqS (sy_c (sy_c (sy_c (sy_c (sy_c (sx_n) setL) setL) setL) setL) setL) ?_
  refine asZ (.ptr rg 4800000 g3 0 0) rfl (nZ (qZ (rZ (asZ .nil rfl (nZ (qZ (qZ (rZ (mvZ (eL eDiagram list) rfl (wZ rg (o_len td142 rfl (mvZ (.int .i64 0) rfl (nZ ?_)))))))))))))
  refine Vc.blk ?_
  refine Vc.mat 11 59 1 rfl (by decide) (fun g8 => ?_)
  refine Vc.matB 4800000 2 4800001002 3 (b := fun g9 => .agg [.sl 1 rg 4800001 g4 0 order.length, .sl 1 rg 4800002 g5 0 place.length, .sl 3 rg 4800001002 g9 0 0, .map rg 4800003 g6, .map rg 4800004 g7]) rfl rfl (by decide) (by decide) rfl (fun g9 => ?_)
  obtain ⟨I, μ, h0, hI⟩ := h
  refine Vc.loop' (σ := ((Int × (List Int) × (GMap Int) × (List GDNode)) × (Nat × Nat))) (fun y => I y.1) (fun y => μ y.1) (fun y => envOf [(10, .ptr rg 4800000 g3 0 0), (11, .sl 1 rg 59 y.2.1 0 y.1.2.1.length), (48, eL eDiagram list), (49, .int .i64 (list.length : Int)), (50, .int .i64 y.1.1)]) (fun y => stL S rg [(59, .arr 1 (List.map (AV.int .i64) y.1.2.1), y.2.1), (4800000, .arr 5 [.agg [.sl 1 rg 4800001 g4 0 order.length, .sl 1 rg 4800002 g5 0 place.length, .sl 3 rg 4800001002 y.2.2 0 y.1.2.2.2.length, .map rg 4800003 g6, .map rg 4800004 g7]], g3), (4800001, .arr 1 (List.map (AV.int .i64) order), g4), (4800002, .arr 1 (List.map (AV.int .i64) place), g5), (4800003, mapE (AV.int .i64) (.many [.i64, .i64, .i64]) y.1.2.2.1, g6), (4800004, mapE (AV.int .i64) (.many [.i64, .i64, .i64]) memo, g7), (4800001002, .arr 3 (List.map eDNode y.1.2.2.2), y.2.2)]) ((0, [], unique, []), (g8, g9)) (EWk.trans (EWk.ow (k := 4800000) (o' := .arr 5 [.agg [.sl 1 rg 4800001 g4 0 order.length, .sl 1 rg 4800002 g5 0 place.length, .sl 3 rg 4800001002 g9 0 ([].length), .map rg 4800003 g6, .map rg 4800004 g7]]) rfl (OW.one (VWL.vwc (vl' vr (vl' vr (vl' (VW.slen (by first | rfl | omega | (simp only [go_sem] <;> omega))) (vl' vr (vl' vr (vn))))))))) (canon (fc vr (fc (VW.slen (by first | rfl | omega | (simp only [go_sem] <;> omega))) (fc vr (fc vr (fc vr (fn)))))) (sc rfl (sc rfl (sc rfl (sc rfl (sc rfl (sc rfl (sc rfl (sn)))))))))) h0 (fun y h => ?_)
  obtain ⟨⟨x2, refs, x3, x4⟩, ⟨g10, g11⟩⟩ := y
  replace h := hI (x2, refs, x3, x4) h
  show Vc _ _ _ _ (envOf [(10, .ptr rg 4800000 g3 0 0), (11, .sl 1 rg 59 g10 0 refs.length), (48, eL eDiagram list), (49, .int .i64 (list.length : Int)), (50, .int .i64 x2)]) (stL S rg [(59, .arr 1 (List.map (AV.int .i64) refs), g10), (4800000, .arr 5 [.agg [.sl 1 rg 4800001 g4 0 order.length, .sl 1 rg 4800002 g5 0 place.length, .sl 3 rg 4800001002 g11 0 x4.length, .map rg 4800003 g6, .map rg 4800004 g7]], g3), (4800001, .arr 1 (List.map (AV.int .i64) order), g4), (4800002, .arr 1 (List.map (AV.int .i64) place), g5), (4800003, mapE (AV.int .i64) (.many [.i64, .i64, .i64]) x3, g6), (4800004, mapE (AV.int .i64) (.many [.i64, .i64, .i64]) memo, g7), (4800001002, .arr 3 (List.map eDNode x4), g11)])
  refine qZ (rZ (wZ rg (o_lss rfl rfl (nZ (qZ ?_)))))
  refine Vc.cond' rfl (fun hb4 => ?_) (fun hb4 => ?_)
  · replace h := h.1 hb4
    refine Vc.skip' ?_
    refine qZ ?_
    refine Vc.blk ?_
    refine qZ (rZ (wZ rg (o_idxL td142 sz25 (by decide) (fun _ => rfl) rfl rfl h.1 ?_)))
    replace h := h.2
    refine wZ rg (o_loadIA sz25 (by decide) ag25 rfl rfl (v := eDiagram (at' list x2)) rfl (wZ rg (o_alloc zav25 ok25 (kk := 3) rfl (fun g12 => (wZ rg (o_storeB (atL (k := 13) rfl) sz25 (by decide) rfl (w := eDiagram (at' list x2)) rfl rfl rfl (v := eDiagram (at' list x2)) rfl setL (nZ (rZ (mvZ (.sl 1 rg 59 g10 0 refs.length) rfl (mvZ (.ptr rg 4800000 g3 0 0) rfl ?_))))))))))
    refine wZ rg (o_loadBA (atL (k := 13) rfl) sz25 (by decide) ag25 rfl rfl (v := eDiagram (at' list x2)) rfl ?_)
    refine wZ rg (o_call (us := [.ptr rg 4800000 g3 0 0, eDiagram (at' list x2)]) rfl (vl' vr (vl' vr (vn))) (ctrX (sx_c (atL (k := 4800000) rfl) (sx_c (atL (k := 4800001002) rfl) (sx_c (atL (k := 4800003) rfl) (sx_c (atL (k := 4800001) rfl) (sx_c (atL (k := 4800002) rfl) (sx_c (atL (k := 4800004) rfl) (sx_n))))))) (decision_Table__Import__e2_ctr (dk_c (ni_c (ni_o rfl) (ni_c (ni_o rfl) (ni_c (ni_o rfl) (ni_c (ni_o rfl) (ni_c (ni_o rfl) (ni_n)))))) (dk_c (ni_c (ni_o rfl) (ni_c (ni_o rfl) (ni_c (ni_o rfl) (ni_c (ni_o rfl) (ni_n))))) (dk_c (ni_c (ni_o rfl) (ni_c (ni_o rfl) (ni_c (ni_o rfl) (ni_n)))) (dk_c (ni_c (ni_o rfl) (ni_c (ni_o rfl) (ni_n))) (dk_c (ni_c (ni_o rfl) (ni_n)) (dk_c (ni_n) (dk_n))))))) h fun u u1 r1 g13 h => ?_)))
    refine Wl.eqS (sy_c (sy_c (sy_c (sx_c (atL (k := 4800001) rfl) (sx_c (atL (k := 4800002) rfl) (sx_c (atL (k := 4800004) rfl) (sx_n)))) setL) setL) setL) ?_
    refine wZ rg (o_bslice td22 ok3 zav3 (es := [.int .i64 r1]) rfl (kk := 1) rfl rfl rfl rfl rfl rfl (fun g14 => ?_))
    refine wZ rg (o_appR td22 bts3 ok3 zav3 (es := refs) (xs := [r1]) (enc := AV.int .i64) (atL (k := 59) rfl) (by first | rfl | omega | (simp only [go_sem] <;> omega)) (view_rowE (atL (k := 58) rfl) (by first | rfl | omega | (simp only [go_sem] <;> omega))) (kk := 1) rfl rfl (fun _ => rfl) (fun _ => rfl) h.1 rfl (fun _ => setL) (fun g15 => ?_))
    replace h := h.2
    refine asZ (.sl 1 rg 59 g15 0 ((refs ++ [r1]).length)) rfl (nZ (rZ (wZ rg (o_addG rfl rfl h.1 ?_))))
    replace h := h.2
    refine mvZ (.int .i64 (x2 + 1)) rfl (nZ ?_)
    exact ⟨(((x2 + 1), (refs ++ [r1]), u1, u), (g15, g13)), (canon (fc vr (fc vr (fc vr (fc vr (fc vr (fn)))))) (sc rfl (sc rfl (sc rfl (sc rfl (sc rfl (sc rfl (sc rfl (sn))))))))), h⟩
  replace h := h.2 hb4
  refine Vc.exit' (exB_self ?_)
  refine qZ (rZ (mvZ (.ptr rg 4800000 g3 0 0) rfl (mvZ (.sl 1 rg 59 g10 0 refs.length) rfl (asZ (.ptr rg 4800000 g3 0 0) rfl (asZ (.sl 1 rg 59 g10 0 refs.length) rfl (asZ .niface rfl (nZ ?_)))))))
  refine Vc.ret' ?_
  refine res_tmp (v := .ptr rg 4800000 g3 0 0) rfl (res_tmp (v := .sl 1 rg 59 g10 0 refs.length) rfl (res_tmp (v := .niface) rfl (res_nil ?_)))
  show Gives _ (.tuple [.ptr rg 4800000 g3 0 0, .sl 1 rg 59 g10 0 refs.length, .niface]) _
  refine gives_freeze (k := 59) (xs := List.map (AV.int .i64) refs) rfl (v' := .tuple [.ptr rg 4800000 g3 0 0, eL (AV.int .i64) refs, .niface]) (VW.tupL (vl' vr (vl' (frz_full rfl) (vl' vr (vn))))) ?_
  exact gives_objs qr hrg [(4800000, g3, .arr 5 [.agg [.sl 1 rg 4800001 g4 0 order.length, .sl 1 rg 4800002 g5 0 place.length, .sl 3 rg 4800001002 g11 0 x4.length, .map rg 4800003 g6, .map rg 4800004 g7]], kr0), (4800001, g4, .arr 1 (List.map (AV.int .i64) order), kr1), (4800002, g5, .arr 1 (List.map (AV.int .i64) place), kr2), (4800001002, g11, .arr 3 (List.map eDNode x4), kr3), (4800003, g6, mapE (AV.int .i64) (.many [.i64, .i64, .i64]) x3, kr4), (4800004, g7, mapE (AV.int .i64) (.many [.i64, .i64, .i64]) memo, kr5)] ⟨rfl, rfl, rfl, rfl, rfl, rfl, rfl, rfl, rfl, rfl, rfl, rfl, trivial⟩ (fun γ => .tuple [.ptr qr kr0 (γ 0) 0 0, eL (AV.int .i64) refs, eErr 83 none]) (fun γ => [(qr, kr0, .arr 5 [.agg [.sl 1 qr kr1 (γ 1) 0 order.length, .sl 1 qr kr2 (γ 2) 0 place.length, .sl 3 qr kr3 (γ 3) 0 x4.length, .map qr kr4 (γ 4), .map qr kr5 (γ 5)]], γ 0), (qr, kr1, .arr 1 (List.map (AV.int .i64) order), γ 1), (qr, kr2, .arr 1 (List.map (AV.int .i64) place), γ 2), (qr, kr3, .arr 3 (List.map eDNode x4), γ 3), (qr, kr4, mapE (AV.int .i64) (.many [.i64, .i64, .i64]) x3, γ 4), (qr, kr5, mapE (AV.int .i64) (.many [.i64, .i64, .i64]) memo, γ 5)]) (fun γ => rx_c (ro_b (rl_c (rn_s 1 rfl) (rl_c (rn_s 2 rfl) (rl_c (rn_s 3 rfl) (rl_c (rn_m 4 rfl) (rl_c (rn_m 5 rfl) (rl_n))))))) (rx_c (ro_r) (rx_c (ro_r) (rx_c (ro_r) (rx_c (ro_r) (rx_c (ro_r) (rx_n))))))) (fun γ => rn_tup (rl_c (rn_p 0 rfl) (rl_c (rn_r) (rl_c (rn_r) (rl_n))))) (fun γ => hQ _ _ _ _ _ _ _ _ _ _ _ _ _ h)
theorem algebra_Least_ctr {d : GDiagram} {Q : Int → Bool → Option Int → Prop} {S : St} {R : AV → St → Prop} (h : algebra_Least_W d Q) (hQ : ∀ r1 r2 r3, Q r1 r2 r3 → R (.tuple [AV.int .i64 r1, AV.bool r2, eErr 83 r3]) S) :
    Ctr Try.prog 37 [eDiagram d] S R := by
  unfold algebra_Least_W at h
  refine enterT Try.func37 rfl Try.ntmps37 Try.results37 (by kernel_rfl) (fun rg hrg => ?_)
  refine qZ (rZ (wZ rg (o_box (v := eDiagram d) rfl rfl (kk := 3) rfl (by decide) (fun g1 => (asZ (.int .i64 0) rfl (asZ (.bool false) rfl (asZ .niface rfl (nZ (qZ (rZ (wZ rg (o_loadBA (atL (k := 1) rfl) sz25 (by decide) ag25 rfl rfl (v := eDiagram d) rfl (wZ rg (o_bslice td142 ok25 zav25 (es := [eDiagram d]) rfl (kk := 3) rfl rfl rfl rfl rfl rfl (fun g2 => ?_)))))))))))))))
  refine Wl.wk (canon_freeze (k := 14) (xs := List.map eDiagram [d]) rfl (es := [(1, .ptr rg 1 g1 0 0), (14, eL eDiagram [d])]) (fc vr (fc (frz_full rfl) (fn))) (m := [(1, .arr 3 [eDiagram d], g1)]) (sc rfl (sn))) ?_
  refine wZ rg (o_call (us := [eL eDiagram [d]]) rfl (vl' vr (vn)) (algebra_open_ctr rg 1600000 1600001 1600002 1600003 1600004 1600005 h (fun r r1 h => ?_) (fun order place nodes unique memo r r1 g3 g4 g5 g6 g7 g8 h => ?_)))
  · replace h := h.1 rfl
    refine mvZ (.tuple [.nilp, eL (AV.int .i64) r, eErr 83 r1]) rfl (wZ rg (o_extract (v := .nilp) rfl rfl rfl (wZ rg (o_extract (v := eL (AV.int .i64) r) rfl rfl rfl (wZ rg (o_extract (v := eErr 83 r1) rfl rfl rfl (asZ .nilp rfl (asZ (eL (AV.int .i64) r) rfl (asZ (eErr 83 r1) rfl (nZ (qZ (qZ (rZ (mvZ (eErr 83 r1) rfl (wZ rg (o_isnon td29 (E := 83) rfl rfl rfl (nZ ?_)))))))))))))))))
    refine Vc.cond' rfl (fun hb4 => ?_) (fun hb4 => ?_)
    · replace h := h.1 hb4
      refine qZ (rZ (mvZ (eErr 83 r1) rfl (asZ (.int .i64 0) rfl (asZ (.bool false) rfl (asZ (eErr 83 r1) rfl (nZ ?_))))))
      refine Vc.ret' ?_
      refine res_tmp (v := .int .i64 0) rfl (res_tmp (v := .bool false) rfl (res_tmp (v := eErr 83 r1) rfl (res_nil ?_)))
      show Gives _ (.tuple [.int .i64 0, .bool false, eErr 83 r1]) _
      exact gives_out hrg (VW.tupL (vl' vr (vl' vr (vl' vr (vn))))) (hQ _ _ _ h)
    replace h := h.2 hb4
    refine Vc.skip' ?_
    refine qZ (rZ (mvZ (eL (AV.int .i64) r) rfl (wZ rg (o_idxL td22 sz3 (by decide) (fun _ => rfl) rfl rfl h.1 ?_))))
    replace h := h.2
    refine wZ rg (o_loadI1 sz3 ag3 rfl rfl (v := .int .i64 (at' r 0)) rfl (asZ (.int .i64 (at' r 0)) rfl (nZ (qZ (qZ (rZ (mvZ (.int .i64 (at' r 0)) rfl (wZ rg (o_eql rfl rfl (nZ ?_))))))))))
    refine Vc.cond' rfl (fun hb5 => ?_) (fun hb5 => ?_)
    · replace h := h.1 hb5
      refine qZ (rZ (asZ (.int .i64 0) rfl (asZ (.bool false) rfl (asZ .niface rfl (nZ ?_)))))
      refine Vc.ret' ?_
      refine res_tmp (v := .int .i64 0) rfl (res_tmp (v := .bool false) rfl (res_tmp (v := .niface) rfl (res_nil ?_)))
      show Gives _ (.tuple [.int .i64 0, .bool false, .niface]) _
      exact gives_out hrg (VW.tupL (vl' vr (vl' vr (vl' vr (vn))))) (hQ _ _ _ h)
    replace h := h.2 hb5
    refine Vc.skip' ?_
    refine qZ (rZ (asZ (.int .i64 0) rfl (nZ (qZ (qZ (rZ (wZ rg (o_faP td25 rfl rfl (by rw [sz22]; decide) rfl (wZ rg (o_loadB1 (atL (k := 1) rfl) sz22 ag22 rfl rfl (v := eL (AV.int .i64) d.Order) rfl (wZ rg (o_len td22 rfl (wZ rg (o_subG rfl rfl h.1 ?_))))))))))))))
    replace h := h.2
    refine asZ (.int .i64 ((d.Order.length : Int) - 1)) rfl (nZ ?_)
    refine Vc.blk ?_
    obtain ⟨I, μ, h0, hI⟩ := h
    refine Vc.loop' (σ := (Int × Int × Int)) (fun y => I y) (fun y => μ y) (fun y => envOf [(5, .nilp), (8, .int .i64 y.1), (9, .int .i64 y.2.1), (10, .int .i64 y.2.2)]) (fun y => stL S rg []) ((at' r 0), 0, ((d.Order.length : Int) - 1)) (canon (fc vr (fc vr (fc vr (fc vr (fn))))) (sn)) h0 (fun y h => ?_)
    obtain ⟨r4, state2, i1⟩ := y
    replace h := hI (r4, state2, i1) h
    show Vc _ _ _ _ (envOf [(5, .nilp), (8, .int .i64 r4), (9, .int .i64 state2), (10, .int .i64 i1)]) (stL S rg [])
    refine qZ (qZ (rZ (mvZ (.int .i64 i1) rfl (wZ rg (o_geq rfl rfl (nZ ?_))))))
    refine Vc.cond' rfl (fun hb6 => ?_) (fun hb6 => ?_)
    · replace h := h.1 hb6
      refine Vc.skip' ?_
      refine qZ ?_
      refine Vc.blk ?_
      refine qZ (qZ (rZ (mvZ .nilp rfl (mvZ (.int .i64 r4) rfl (mvZ (.int .i64 i1) rfl ?_)))))
      exact h.elim
    replace h := h.2 hb6
    refine Vc.exit' (exB_self ?_)
    refine qZ (rZ (mvZ (.int .i64 state2) rfl (asZ (.int .i64 state2) rfl (asZ (.bool true) rfl (asZ .niface rfl (nZ ?_))))))
    refine Vc.ret' ?_
    refine res_tmp (v := .int .i64 state2) rfl (res_tmp (v := .bool true) rfl (res_tmp (v := .niface) rfl (res_nil ?_)))
    show Gives _ (.tuple [.int .i64 state2, .bool true, .niface]) _
    exact gives_out hrg (VW.tupL (vl' vr (vl' vr (vl' vr (vn))))) (hQ _ _ _ h)
  replace h := h.2 (order, place, nodes, unique, memo) rfl
  refine Wl.eqS (sy_c (sy_c (sy_c (sy_c (sy_c (sy_c (sx_n) setL) setL) setL) setL) setL) setL) ?_
  refine mvZ (.tuple [.ptr rg 1600000 g3 0 0, eL (AV.int .i64) r, eErr 83 r1]) rfl (wZ rg (o_extract (v := .ptr rg 1600000 g3 0 0) rfl rfl rfl (wZ rg (o_extract (v := eL (AV.int .i64) r) rfl rfl rfl (wZ rg (o_extract (v := eErr 83 r1) rfl rfl rfl (asZ (.ptr rg 1600000 g3 0 0) rfl (asZ (eL (AV.int .i64) r) rfl (asZ (eErr 83 r1) rfl (nZ (qZ (qZ (rZ (mvZ (eErr 83 r1) rfl ?_))))))))))))))
  refine wZ rg (o_isnon td29 (E := 83) rfl rfl rfl (nZ ?_))
  refine Vc.cond' rfl (fun hb => ?_) (fun hb => ?_)
  · replace h := h.1 hb
    refine qZ (rZ (mvZ (eErr 83 r1) rfl (asZ (.int .i64 0) rfl (asZ (.bool false) rfl (asZ (eErr 83 r1) rfl (nZ ?_))))))
    refine Vc.ret' ?_
    refine res_tmp (v := .int .i64 0) rfl (res_tmp (v := .bool false) rfl (res_tmp (v := eErr 83 r1) rfl (res_nil ?_)))
    show Gives _ (.tuple [.int .i64 0, .bool false, eErr 83 r1]) _
    exact gives_out hrg (VW.tupL (vl' vr (vl' vr (vl' vr (vn))))) (hQ _ _ _ h)
  replace h := h.2 hb
  refine Vc.skip' ?_
  refine qZ (rZ (mvZ (eL (AV.int .i64) r) rfl (wZ rg (o_idxL td22 sz3 (by decide) (fun _ => rfl) rfl rfl h.1 ?_))))
  replace h := h.2
  refine wZ rg (o_loadI1 sz3 ag3 rfl rfl (v := .int .i64 (at' r 0)) rfl (asZ (.int .i64 (at' r 0)) rfl (nZ (qZ (qZ (rZ (mvZ (.int .i64 (at' r 0)) rfl (wZ rg (o_eql rfl rfl (nZ ?_))))))))))
  refine Vc.cond' rfl (fun hb1 => ?_) (fun hb1 => ?_)
  · replace h := h.1 hb1
    refine qZ (rZ (asZ (.int .i64 0) rfl (asZ (.bool false) rfl (asZ .niface rfl (nZ ?_)))))
    refine Vc.ret' ?_
    refine res_tmp (v := .int .i64 0) rfl (res_tmp (v := .bool false) rfl (res_tmp (v := .niface) rfl (res_nil ?_)))
    show Gives _ (.tuple [.int .i64 0, .bool false, .niface]) _
    exact gives_out hrg (VW.tupL (vl' vr (vl' vr (vl' vr (vn))))) (hQ _ _ _ h)
  replace h := h.2 hb1
  refine Vc.skip' ?_
  refine qZ (rZ (asZ (.int .i64 0) rfl (nZ (qZ (qZ (rZ (wZ rg (o_faP td25 rfl rfl (by rw [sz22]; decide) rfl (wZ rg (o_loadB1 (atL (k := 1) rfl) sz22 ag22 rfl rfl (v := eL (AV.int .i64) d.Order) rfl (wZ rg (o_len td22 rfl (wZ rg (o_subG rfl rfl h.1 ?_))))))))))))))
  replace h := h.2
  refine asZ (.int .i64 ((d.Order.length : Int) - 1)) rfl (nZ ?_)
  refine Vc.blk ?_
  obtain ⟨I, μ, h0, hI⟩ := h
  refine Vc.loop' (σ := ((Int × Int × Int × (List GDNode) × (GMap Int) × (GMap Int)) × (Nat))) (fun y => I y.1) (fun y => μ y.1) (fun y => envOf [(5, .ptr rg 1600000 g3 0 0), (8, .int .i64 y.1.1), (9, .int .i64 y.1.2.1), (10, .int .i64 y.1.2.2.1)]) (fun y => stL S rg [(1600000, .arr 5 [.agg [.sl 1 rg 1600001 g4 0 order.length, .sl 1 rg 1600002 g5 0 place.length, .sl 3 rg 1600003 y.2 0 y.1.2.2.2.1.length, .map rg 1600004 g7, .map rg 1600005 g8]], g3), (1600001, .arr 1 (List.map (AV.int .i64) order), g4), (1600002, .arr 1 (List.map (AV.int .i64) place), g5), (1600003, .arr 3 (List.map eDNode y.1.2.2.2.1), y.2), (1600004, mapE (AV.int .i64) (.many [.i64, .i64, .i64]) y.1.2.2.2.2.1, g7), (1600005, mapE (AV.int .i64) (.many [.i64, .i64, .i64]) y.1.2.2.2.2.2, g8)]) (((at' r 0), 0, ((d.Order.length : Int) - 1), nodes, unique, memo), g6) (canon (fc vr (fc vr (fc vr (fc vr (fn))))) (sc rfl (sc rfl (sc rfl (sc rfl (sc rfl (sc rfl (sn)))))))) h0 (fun y h => ?_)
  obtain ⟨⟨r2, state, i, x, x1, x2⟩, g9⟩ := y
  replace h := hI (r2, state, i, x, x1, x2) h
  show Vc _ _ _ _ (envOf [(5, .ptr rg 1600000 g3 0 0), (8, .int .i64 r2), (9, .int .i64 state), (10, .int .i64 i)]) (stL S rg [(1600000, .arr 5 [.agg [.sl 1 rg 1600001 g4 0 order.length, .sl 1 rg 1600002 g5 0 place.length, .sl 3 rg 1600003 g9 0 x.length, .map rg 1600004 g7, .map rg 1600005 g8]], g3), (1600001, .arr 1 (List.map (AV.int .i64) order), g4), (1600002, .arr 1 (List.map (AV.int .i64) place), g5), (1600003, .arr 3 (List.map eDNode x), g9), (1600004, mapE (AV.int .i64) (.many [.i64, .i64, .i64]) x1, g7), (1600005, mapE (AV.int .i64) (.many [.i64, .i64, .i64]) x2, g8)])
  refine qZ (qZ (rZ (mvZ (.int .i64 i) rfl (wZ rg (o_geq rfl rfl (nZ ?_))))))
  refine Vc.cond' rfl (fun hb2 => ?_) (fun hb2 => ?_)
  · replace h := h.1 hb2
    refine Vc.skip' ?_
    refine qZ ?_
    refine Vc.blk ?_
    refine qZ (qZ (rZ (mvZ (.ptr rg 1600000 g3 0 0) rfl (mvZ (.int .i64 r2) rfl (mvZ (.int .i64 i) rfl ?_)))))
    refine wZ rg (o_call (us := [.ptr rg 1600000 g3 0 0, AV.int .i64 r2, AV.int .i64 i, AV.bool false]) rfl (vl' vr (vl' vr (vl' vr (vl' vr (vn))))) (ctrX (sx_c (atL (k := 1600000) rfl) (sx_c (atL (k := 1600003) rfl) (sx_c (atL (k := 1600004) rfl) (sx_c (atL (k := 1600005) rfl) (sx_c (atL (k := 1600001) rfl) (sx_c (atL (k := 1600002) rfl) (sx_n))))))) (decision_Table__Restrict__e_ctr (dk_c (ni_c (ni_o rfl) (ni_c (ni_o rfl) (ni_c (ni_o rfl) (ni_c (ni_o rfl) (ni_c (ni_o rfl) (ni_n)))))) (dk_c (ni_c (ni_o rfl) (ni_c (ni_o rfl) (ni_c (ni_o rfl) (ni_c (ni_o rfl) (ni_n))))) (dk_c (ni_c (ni_o rfl) (ni_c (ni_o rfl) (ni_c (ni_o rfl) (ni_n)))) (dk_c (ni_c (ni_o rfl) (ni_c (ni_o rfl) (ni_n))) (dk_c (ni_c (ni_o rfl) (ni_n)) (dk_c (ni_n) (dk_n))))))) h fun u u1 u2 x3 g10 h => ?_)))
    refine Wl.eqS (sy_c (sy_c (sy_c (sy_c (sx_c (atL (k := 1600001) rfl) (sx_c (atL (k := 1600002) rfl) (sx_n))) setL) setL) setL) setL) ?_
    refine asZ (.int .i64 x3) rfl (nZ (qZ (rZ (mvZ (.int .i64 x3) rfl (wZ rg (o_neq rfl rfl (nZ ?_)))))))
    refine Vc.cond' rfl (fun hb3 => ?_) (fun hb3 => ?_)
    · replace h := h.1 hb3
      refine qZ (rZ (mvZ (.int .i64 x3) rfl (asZ (.int .i64 x3) rfl (nZ ?_))))
      refine Vc.exit' (exB_self ?_)
      refine rZ ?_
      refine mvZ (.int .i64 i) rfl (wZ rg (o_subG rfl rfl h.1 ?_))
      replace h := h.2
      refine asZ (.int .i64 (i - 1)) rfl (nZ ?_)
      exact ⟨((x3, state, (i - 1), u, u1, u2), g10), (canon (fc vr (fc vr (fc vr (fc vr (fn))))) (sc rfl (sc rfl (sc rfl (sc rfl (sc rfl (sc rfl (sn)))))))), h⟩
    replace h := h.2 hb3
    refine Vc.skip' ?_
    refine qZ (rZ (mvZ (.ptr rg 1600000 g3 0 0) rfl (mvZ (.int .i64 r2) rfl (mvZ (.int .i64 i) rfl ?_))))
    refine wZ rg (o_call (us := [.ptr rg 1600000 g3 0 0, AV.int .i64 r2, AV.int .i64 i, AV.bool true]) rfl (vl' vr (vl' vr (vl' vr (vl' vr (vn))))) (ctrX (sx_c (atL (k := 1600000) rfl) (sx_c (atL (k := 1600003) rfl) (sx_c (atL (k := 1600004) rfl) (sx_c (atL (k := 1600005) rfl) (sx_c (atL (k := 1600001) rfl) (sx_c (atL (k := 1600002) rfl) (sx_n))))))) (decision_Table__Restrict__e_ctr (dk_c (ni_c (ni_o rfl) (ni_c (ni_o rfl) (ni_c (ni_o rfl) (ni_c (ni_o rfl) (ni_c (ni_o rfl) (ni_n)))))) (dk_c (ni_c (ni_o rfl) (ni_c (ni_o rfl) (ni_c (ni_o rfl) (ni_c (ni_o rfl) (ni_n))))) (dk_c (ni_c (ni_o rfl) (ni_c (ni_o rfl) (ni_c (ni_o rfl) (ni_n)))) (dk_c (ni_c (ni_o rfl) (ni_c (ni_o rfl) (ni_n))) (dk_c (ni_c (ni_o rfl) (ni_n)) (dk_c (ni_n) (dk_n))))))) h fun u3 u4 u5 r3 g11 h => ?_)))
    refine Wl.eqS (sy_c (sy_c (sy_c (sy_c (sx_c (atL (k := 1600001) rfl) (sx_c (atL (k := 1600002) rfl) (sx_n))) setL) setL) setL) setL) ?_
    refine asZ (.int .i64 r3) rfl (nZ (rZ (mvZ (.int .i64 state) rfl (mvZ (.int .i64 i) rfl (wZ rg (o_shlG rfl rfl h.1 ?_))))))
    replace h := h.2
    refine wZ rg (o_or rfl rfl ?_)
    obtain ⟨state1, hs⟩ : ∃ qz : Int, qz = (bits .or .i64 state (1 * 2 ^ (Int.toNat i))) := ⟨_, rfl⟩
    replace h := h state1 hs
    refine wZ rg (o_assign (v := .int .i64 state1) (by subst hs; rfl) (nZ (rZ (mvZ (.int .i64 i) rfl (wZ rg (o_subG rfl rfl h.1 ?_))))))
    replace h := h.2
    refine asZ (.int .i64 (i - 1)) rfl (nZ ?_)
    exact ⟨((r3, state1, (i - 1), u3, u4, u5), g11), (canon (fc vr (fc vr (fc vr (fc vr (fn))))) (sc rfl (sc rfl (sc rfl (sc rfl (sc rfl (sc rfl (sn)))))))), h⟩
  replace h := h.2 hb2
  refine Vc.exit' (exB_self ?_)
  refine qZ (rZ (mvZ (.int .i64 state) rfl (asZ (.int .i64 state) rfl (asZ (.bool true) rfl (asZ .niface rfl (nZ ?_))))))
  refine Vc.ret' ?_
  refine res_tmp (v := .int .i64 state) rfl (res_tmp (v := .bool true) rfl (res_tmp (v := .niface) rfl (res_nil ?_)))
  show Gives _ (.tuple [.int .i64 state, .bool true, .niface]) _
  exact gives_out hrg (VW.tupL (vl' vr (vl' vr (vl' vr (vn))))) (hQ _ _ _ h)
theorem algebra_result__e_ctr {r : Int} {order : List Int} {place : List Int} {nodes : List GDNode} {unique : GMap Int} {memo : GMap Int} {q0 k0 g0 q1 k1 g1 q2 k2 g2 q3 k3 g3 q4 k4 g4 q5 k5 g5 : Nat} (hdk : DK [(q0, k0), (q1, k1), (q2, k2), (q3, k3), (q4, k4), (q5, k5)]) {Q : GDiagram → Option Int → Prop} {S : St} {R : AV → St → Prop} (h : algebra_result__e_W r order place nodes unique memo Q) (hQ : ∀ r1 r2, Q r1 r2 → R (.tuple [eDiagram r1, eErr 83 r2]) (stX S [(q0, k0, .arr 5 [.agg [.sl 1 q1 k1 g1 0 order.length, .sl 1 q2 k2 g2 0 place.length, .sl 3 q3 k3 g3 0 nodes.length, .map q4 k4 g4, .map q5 k5 g5]], g0), (q1, k1, .arr 1 (List.map (AV.int .i64) order), g1), (q2, k2, .arr 1 (List.map (AV.int .i64) place), g2), (q3, k3, .arr 3 (List.map eDNode nodes), g3), (q4, k4, mapE (AV.int .i64) (.many [.i64, .i64, .i64]) unique, g4), (q5, k5, mapE (AV.int .i64) (.many [.i64, .i64, .i64]) memo, g5)])) :
    Ctr Try.prog 124 [.ptr q0 k0 g0 0 0, AV.int .i64 r] (stX S [(q0, k0, .arr 5 [.agg [.sl 1 q1 k1 g1 0 order.length, .sl 1 q2 k2 g2 0 place.length, .sl 3 q3 k3 g3 0 nodes.length, .map q4 k4 g4, .map q5 k5 g5]], g0), (q1, k1, .arr 1 (List.map (AV.int .i64) order), g1), (q2, k2, .arr 1 (List.map (AV.int .i64) place), g2), (q3, k3, .arr 3 (List.map eDNode nodes), g3), (q4, k4, mapE (AV.int .i64) (.many [.i64, .i64, .i64]) unique, g4), (q5, k5, mapE (AV.int .i64) (.many [.i64, .i64, .i64]) memo, g5)]) R := by
  unfold algebra_result__e_W at h
  refine enterT Try.func124 rfl Try.ntmps124 Try.results124 (by kernel_rfl) (fun rg hrg => ?_)
  have hdx : DX [(q0, k0, .arr 5 [.agg [.sl 1 q1 k1 g1 0 order.length, .sl 1 q2 k2 g2 0 place.length, .sl 3 q3 k3 g3 0 nodes.length, .map q4 k4 g4, .map q5 k5 g5]], g0), (q1, k1, .arr 1 (List.map (AV.int .i64) order), g1), (q2, k2, .arr 1 (List.map (AV.int .i64) place), g2), (q3, k3, .arr 3 (List.map eDNode nodes), g3), (q4, k4, mapE (AV.int .i64) (.many [.i64, .i64, .i64]) unique, g4), (q5, k5, mapE (AV.int .i64) (.many [.i64, .i64, .i64]) memo, g5)] := hdk
  have hfr := fun X' e => fresh_set (S := S) (rg := rg) (X := [(q0, k0, .arr 5 [.agg [.sl 1 q1 k1 g1 0 order.length, .sl 1 q2 k2 g2 0 place.length, .sl 3 q3 k3 g3 0 nodes.length, .map q4 k4 g4, .map q5 k5 g5]], g0), (q1, k1, .arr 1 (List.map (AV.int .i64) order), g1), (q2, k2, .arr 1 (List.map (AV.int .i64) place), g2), (q3, k3, .arr 3 (List.map eDNode nodes), g3), (q4, k4, mapE (AV.int .i64) (.many [.i64, .i64, .i64]) unique, g4), (q5, k5, mapE (AV.int .i64) (.many [.i64, .i64, .i64]) memo, g5)]) (X' := X') e hrg
  have hne0 := fresh_ne hdx hrg 0 rfl
  have hne1 := fresh_ne hdx hrg 1 rfl
  have hne2 := fresh_ne hdx hrg 2 rfl
  have hne3 := fresh_ne hdx hrg 3 rfl
  have hne4 := fresh_ne hdx hrg 4 rfl
  have hne5 := fresh_ne hdx hrg 5 rfl
  refine qZ (rZ (wZ rg (o_alloc zav25 ok25 (kk := 3) rfl (fun g6 => (asZ .niface rfl (nZ (qZ (qZ (rZ (mvZ (.ptr q0 k0 g0 0 0) rfl (mvZ (.int .i64 r) rfl ?_)))))))))))
  refine wZ rg (o_call (us := [.ptr q0 k0 g0 0 0, AV.int .i64 r, AV.int .i64 4096]) rfl (vl' vr (vl' vr (vl' vr (vn)))) (ctrX (sx_c (atX hne0 hdx 0 rfl) (sx_c (atX hne1 hdx 1 rfl) (sx_c (atX hne2 hdx 2 rfl) (sx_c (atX hne3 hdx 3 rfl) (sx_c (atX hne4 hdx 4 rfl) (sx_c (atX hne5 hdx 5 rfl) (sx_n))))))) (decision_Table__Small__e_ctr (dk_c (ni_c (dk_at 0 1 hdk rfl rfl rfl) (ni_c (dk_at 0 2 hdk rfl rfl rfl) (ni_c (dk_at 0 3 hdk rfl rfl rfl) (ni_c (dk_at 0 4 hdk rfl rfl rfl) (ni_c (dk_at 0 5 hdk rfl rfl rfl) (ni_n)))))) (dk_c (ni_c (dk_at 1 2 hdk rfl rfl rfl) (ni_c (dk_at 1 3 hdk rfl rfl rfl) (ni_c (dk_at 1 4 hdk rfl rfl rfl) (ni_c (dk_at 1 5 hdk rfl rfl rfl) (ni_n))))) (dk_c (ni_c (dk_at 2 3 hdk rfl rfl rfl) (ni_c (dk_at 2 4 hdk rfl rfl rfl) (ni_c (dk_at 2 5 hdk rfl rfl rfl) (ni_n)))) (dk_c (ni_c (dk_at 3 4 hdk rfl rfl rfl) (ni_c (dk_at 3 5 hdk rfl rfl rfl) (ni_n))) (dk_c (ni_c (dk_at 4 5 hdk rfl rfl rfl) (ni_n)) (dk_c (ni_n) (dk_n))))))) h fun r1 h => ?_)))
  refine Wl.eqS (sx_c (atX hne0 hdx 0 rfl) (sx_c (atX hne1 hdx 1 rfl) (sx_c (atX hne2 hdx 2 rfl) (sx_c (atX hne3 hdx 3 rfl) (sx_c (atX hne4 hdx 4 rfl) (sx_c (atX hne5 hdx 5 rfl) (sx_n))))))) ?_
  refine wZ rg (o_not rfl (nZ ?_))
  refine Vc.cond' rfl (fun hb => ?_) (fun hb => ?_)
  · replace h := h.1 hb
    refine qZ (rZ (wZ rg (o_build td25 zav25 bok25 szs25 sz25 (ps := []) rfl rfl (v := .agg [.nil, .nil, .int .i64 0]) rfl (wZ rg (o_iface (by rw [td83]; trivial) (v := .int .i64 4) rfl (wZ rg (o_storeB (atL (k := 4) rfl) sz25 (by decide) rfl (w := .agg [.nil, .nil, .int .i64 0]) rfl rfl rfl (v := .agg [.nil, .nil, .int .i64 0]) rfl setL (asZ (.iface 83 (.int .i64 4)) rfl (nZ ?_)))))))))
    refine Vc.ret' ?_
    refine res_cellA (atL (k := 4) rfl) sz25 (by decide) ag25 rfl rfl (v := .agg [.nil, .nil, .int .i64 0]) rfl (res_tmp (v := .iface 83 (.int .i64 4)) rfl (res_nil ?_))
    show Gives _ (.tuple [.agg [.nil, .nil, .int .i64 0], .iface 83 (.int .i64 4)]) _
    exact gives_out (hfr _ rfl) (VW.tupL (vl' (VW.aggL (vl' (VW.nilL) (vl' (VW.nilL) (vl' vr (vn))))) (vl' vr (vn)))) (hQ _ _ h)
  replace h := h.2 hb
  refine Vc.skip' ?_
  refine qZ (rZ (mvZ (.ptr q0 k0 g0 0 0) rfl (mvZ (.int .i64 r) rfl ?_)))
  refine wZ rg (o_call (us := [.ptr q0 k0 g0 0 0, AV.int .i64 r]) rfl (vl' vr (vl' vr (vn))) (ctrX (sx_c (atX hne0 hdx 0 rfl) (sx_c (atX hne1 hdx 1 rfl) (sx_c (atX hne2 hdx 2 rfl) (sx_c (atX hne3 hdx 3 rfl) (sx_c (atX hne4 hdx 4 rfl) (sx_c (atX hne5 hdx 5 rfl) (sx_n))))))) (decision_Table__Export__e_ctr (dk_c (ni_c (dk_at 0 1 hdk rfl rfl rfl) (ni_c (dk_at 0 2 hdk rfl rfl rfl) (ni_c (dk_at 0 3 hdk rfl rfl rfl) (ni_c (dk_at 0 4 hdk rfl rfl rfl) (ni_c (dk_at 0 5 hdk rfl rfl rfl) (ni_n)))))) (dk_c (ni_c (dk_at 1 2 hdk rfl rfl rfl) (ni_c (dk_at 1 3 hdk rfl rfl rfl) (ni_c (dk_at 1 4 hdk rfl rfl rfl) (ni_c (dk_at 1 5 hdk rfl rfl rfl) (ni_n))))) (dk_c (ni_c (dk_at 2 3 hdk rfl rfl rfl) (ni_c (dk_at 2 4 hdk rfl rfl rfl) (ni_c (dk_at 2 5 hdk rfl rfl rfl) (ni_n)))) (dk_c (ni_c (dk_at 3 4 hdk rfl rfl rfl) (ni_c (dk_at 3 5 hdk rfl rfl rfl) (ni_n))) (dk_c (ni_c (dk_at 4 5 hdk rfl rfl rfl) (ni_n)) (dk_c (ni_n) (dk_n))))))) h fun r2 h => ?_)))
  refine Wl.eqS (sx_c (atX hne0 hdx 0 rfl) (sx_c (atX hne1 hdx 1 rfl) (sx_c (atX hne2 hdx 2 rfl) (sx_c (atX hne3 hdx 3 rfl) (sx_c (atX hne4 hdx 4 rfl) (sx_c (atX hne5 hdx 5 rfl) (sx_n))))))) ?_
  refine wZ rg (o_storeB (atL (k := 4) rfl) sz25 (by decide) rfl (w := eDiagram r2) rfl rfl rfl (v := eDiagram r2) rfl setL (asZ .niface rfl (nZ ?_)))
  refine Vc.ret' ?_
  refine res_cellA (atL (k := 4) rfl) sz25 (by decide) ag25 rfl rfl (v := eDiagram r2) rfl (res_tmp (v := .niface) rfl (res_nil ?_))
  show Gives _ (.tuple [eDiagram r2, .niface]) _
  exact gives_out (hfr _ rfl) (VW.tupL (vl' vr (vl' vr (vn)))) (hQ _ _ h)
theorem algebra_both__decision_Table__And_ctr {a : GDiagram} {b : GDiagram} {Q : GDiagram → Option Int → Prop} {S : St} {R : AV → St → Prop} (h : algebra_both__decision_Table__And_W a b Q) (hQ : ∀ r1 r2, Q r1 r2 → R (.tuple [eDiagram r1, eErr 83 r2]) S) :
    Ctr Try.prog 131 [eDiagram a, eDiagram b, .fn (.func 132) [] []] S R := by
  unfold algebra_both__decision_Table__And_W at h
  refine enterT Try.func131 rfl Try.ntmps131 Try.results131 (by kernel_rfl) (fun rg hrg => ?_)
  refine qZ (rZ (wZ rg (o_box (v := eDiagram a) rfl rfl (kk := 3) rfl (by decide) (fun g1 => (wZ rg (o_box (v := eDiagram b) rfl rfl (kk := 3) rfl (by decide) (fun g2 => (wZ rg (o_alloc zav25 ok25 (kk := 3) rfl (fun g3 => (asZ .niface rfl (nZ (qZ (rZ (wZ rg (o_loadBA (atL (k := 3) rfl) sz25 (by decide) ag25 rfl rfl (v := eDiagram a) rfl ?_))))))))))))))))
  refine wZ rg (o_loadBA (atL (k := 4) rfl) sz25 (by decide) ag25 rfl rfl (v := eDiagram b) rfl (wZ rg (o_bslice td142 ok25 zav25 (es := [eDiagram a, eDiagram b]) rfl (kk := 3) rfl rfl rfl rfl rfl rfl (fun g4 => ?_))))
  refine Wl.wk (canon_freeze (k := 14) (xs := List.map eDiagram [a, b]) rfl (es := [(2, .fn (.func 132) [] []), (6, .ptr rg 6 g3 0 0), (14, eL eDiagram [a, b])]) (fc vr (fc vr (fc (frz_full rfl) (fn)))) (m := [(6, .arr 3 [.agg [.nil, .nil, .int .i64 0]], g3)]) (sc rfl (sn))) ?_
  refine wZ rg (o_call (us := [eL eDiagram [a, b]]) rfl (vl' vr (vn)) (algebra_open_ctr rg 1600000 1600001 1600002 1600003 1600004 1600005 h (fun r r1 h => ?_) (fun order place nodes unique memo r r1 g5 g6 g7 g8 g9 g10 h => ?_)))
  · replace h := h.1 rfl
    refine mvZ (.tuple [.nilp, eL (AV.int .i64) r, eErr 83 r1]) rfl (wZ rg (o_extract (v := .nilp) rfl rfl rfl (wZ rg (o_extract (v := eL (AV.int .i64) r) rfl rfl rfl (wZ rg (o_extract (v := eErr 83 r1) rfl rfl rfl (asZ .nilp rfl (asZ (eL (AV.int .i64) r) rfl (asZ (eErr 83 r1) rfl (nZ (qZ (qZ (rZ (mvZ (eErr 83 r1) rfl (wZ rg (o_isnon td29 (E := 83) rfl rfl rfl (nZ ?_)))))))))))))))))
    refine Vc.cond' rfl (fun hb1 => ?_) (fun hb1 => ?_)
    · replace h := h.1 hb1
      refine qZ (rZ (wZ rg (o_build td25 zav25 bok25 szs25 sz25 (ps := []) rfl rfl (v := .agg [.nil, .nil, .int .i64 0]) rfl (mvZ (eErr 83 r1) rfl (wZ rg (o_storeB (atL (k := 6) rfl) sz25 (by decide) rfl (w := .agg [.nil, .nil, .int .i64 0]) rfl rfl rfl (v := .agg [.nil, .nil, .int .i64 0]) rfl setL (asZ (eErr 83 r1) rfl (nZ ?_))))))))
      refine Vc.ret' ?_
      refine res_cellA (atL (k := 6) rfl) sz25 (by decide) ag25 rfl rfl (v := .agg [.nil, .nil, .int .i64 0]) rfl (res_tmp (v := eErr 83 r1) rfl (res_nil ?_))
      show Gives _ (.tuple [.agg [.nil, .nil, .int .i64 0], eErr 83 r1]) _
      exact gives_out hrg (VW.tupL (vl' (VW.aggL (vl' (VW.nilL) (vl' (VW.nilL) (vl' vr (vn))))) (vl' vr (vn)))) (hQ _ _ h)
    replace h := h.2 hb1
    refine Vc.skip' ?_
    refine qZ ?_
    exact h.elim
  replace h := h.2 (order, place, nodes, unique, memo) rfl
  refine Wl.eqS (sy_c (sy_c (sy_c (sy_c (sy_c (sy_c (sx_n) setL) setL) setL) setL) setL) setL) ?_
  refine mvZ (.tuple [.ptr rg 1600000 g5 0 0, eL (AV.int .i64) r, eErr 83 r1]) rfl (wZ rg (o_extract (v := .ptr rg 1600000 g5 0 0) rfl rfl rfl (wZ rg (o_extract (v := eL (AV.int .i64) r) rfl rfl rfl (wZ rg (o_extract (v := eErr 83 r1) rfl rfl rfl (asZ (.ptr rg 1600000 g5 0 0) rfl (asZ (eL (AV.int .i64) r) rfl (asZ (eErr 83 r1) rfl (nZ (qZ (qZ (rZ (mvZ (eErr 83 r1) rfl ?_))))))))))))))
  refine wZ rg (o_isnon td29 (E := 83) rfl rfl rfl (nZ ?_))
  refine Vc.cond' rfl (fun hb => ?_) (fun hb => ?_)
  · replace h := h.1 hb
    refine qZ (rZ (wZ rg (o_build td25 zav25 bok25 szs25 sz25 (ps := []) rfl rfl (v := .agg [.nil, .nil, .int .i64 0]) rfl (mvZ (eErr 83 r1) rfl (wZ rg (o_storeB (atL (k := 6) rfl) sz25 (by decide) rfl (w := .agg [.nil, .nil, .int .i64 0]) rfl rfl rfl (v := .agg [.nil, .nil, .int .i64 0]) rfl setL (asZ (eErr 83 r1) rfl (nZ ?_))))))))
    refine Vc.ret' ?_
    refine res_cellA (atL (k := 6) rfl) sz25 (by decide) ag25 rfl rfl (v := .agg [.nil, .nil, .int .i64 0]) rfl (res_tmp (v := eErr 83 r1) rfl (res_nil ?_))
    show Gives _ (.tuple [.agg [.nil, .nil, .int .i64 0], eErr 83 r1]) _
    exact gives_out hrg (VW.tupL (vl' (VW.aggL (vl' (VW.nilL) (vl' (VW.nilL) (vl' vr (vn))))) (vl' vr (vn)))) (hQ _ _ h)
  replace h := h.2 hb
  refine Vc.skip' ?_
  refine qZ ?_
  have hg := h.1
  replace h := h.2
  have hg1 := h.1
  replace h := h.2
  obtain ⟨u, u1, u2, r2, hc, h⟩ := h
  obtain ⟨r3, r4, hc1, h⟩ := h
  refine Vc.drawn' mixed rg (usOf [(9, wc (fun _ => .int .i64 r2) [(rg, 1600001), (rg, 1600002)] [(rg, 1600000), (rg, 1600003), (rg, 1600004), (rg, 1600005)] (fun gm => [(rg, 1600000, .arr 5 [.agg [.sl 1 rg 1600001 g6 0 order.length, .sl 1 rg 1600002 g7 0 place.length, .sl 3 rg 1600003 (gm 0) 0 u.length, .map rg 1600004 g9, .map rg 1600005 g10]], g5), (rg, 1600003, .arr 3 (List.map eDNode u), (gm 0)), (rg, 1600004, mapE (AV.int .i64) (.many [.i64, .i64, .i64]) u1, g9), (rg, 1600005, mapE (AV.int .i64) (.many [.i64, .i64, .i64]) u2, g10)])), (10, wc (fun _ => .tuple [eDiagram r3, eErr 83 r4]) [(rg, 1600000), (rg, 1600001), (rg, 1600002), (rg, 1600003), (rg, 1600004), (rg, 1600005)] [] (fun _ => []))]) (by kernel_rfl) ?_
  refine dP rfl rfl (o_move (v := .ptr rg 1600000 g5 0 0) rfl (dP rfl rfl (o_move (v := .fn (.func 132) [] []) rfl (dP rfl rfl (o_move (v := .ptr rg 1600000 g5 0 0) rfl (dP rfl rfl (o_move (v := eL (AV.int .i64) r) rfl (dP rfl rfl (o_idxL td22 sz3 (by decide) (fun _ => rfl) rfl rfl hg (dP rfl rfl (o_loadI1 sz3 ag3 rfl rfl (v := .int .i64 (at' r 0)) rfl ?_)))))))))))
  refine dP rfl rfl (o_move (v := eL (AV.int .i64) r) rfl (dP rfl rfl (o_idxL td22 sz3 (by decide) (fun _ => rfl) rfl rfl hg1 (dP rfl rfl (o_loadI1 sz3 ag3 rfl rfl (v := .int .i64 (at' r 1)) rfl ?_)))))
  refine dCE (vs := [.ptr rg 1600000 g5 0 0, AV.int .i64 (at' r 0), AV.int .i64 (at' r 1)]) (V := fun _ => .int .i64 r2) (rd := [(rg, 1600001), (rg, 1600002)]) (wk := [(rg, 1600000), (rg, 1600003), (rg, 1600004), (rg, 1600005)]) (wr := fun gm => [(rg, 1600000, .arr 5 [.agg [.sl 1 rg 1600001 g6 0 order.length, .sl 1 rg 1600002 g7 0 place.length, .sl 3 rg 1600003 (gm 0) 0 u.length, .map rg 1600004 g9, .map rg 1600005 g10]], g5), (rg, 1600003, .arr 3 (List.map eDNode u), (gm 0)), (rg, 1600004, mapE (AV.int .i64) (.many [.i64, .i64, .i64]) u1, g9), (rg, 1600005, mapE (AV.int .i64) (.many [.i64, .i64, .i64]) u2, g10)]) rfl (vl' vr (vl' vr (vl' vr (vn)))) rfl (cfn) (by simp) (fun _ => rfl) (fun S' hA hB => ctrX (sx_c (ag hB 0 rfl (atL (k := 1600000) rfl)) (sx_c (ag hB 1 rfl (atL (k := 1600003) rfl)) (sx_c (ag hB 2 rfl (atL (k := 1600004) rfl)) (sx_c (ag hB 3 rfl (atL (k := 1600005) rfl)) (sx_c (ag hA 0 rfl (atL (k := 1600001) rfl)) (sx_c (ag hA 1 rfl (atL (k := 1600002) rfl)) (sx_n))))))) (decision_Table__And__e_ctr (dk_c (ni_c (ni_o rfl) (ni_c (ni_o rfl) (ni_c (ni_o rfl) (ni_c (ni_o rfl) (ni_c (ni_o rfl) (ni_n)))))) (dk_c (ni_c (ni_o rfl) (ni_c (ni_o rfl) (ni_c (ni_o rfl) (ni_c (ni_o rfl) (ni_n))))) (dk_c (ni_c (ni_o rfl) (ni_c (ni_o rfl) (ni_c (ni_o rfl) (ni_n)))) (dk_c (ni_c (ni_o rfl) (ni_c (ni_o rfl) (ni_n))) (dk_c (ni_c (ni_o rfl) (ni_n)) (dk_c (ni_n) (dk_n))))))) hc (fun _ _ _ _ h3 he => by obtain ⟨rfl, rfl, rfl, rfl⟩ := he; exact ⟨fun i => [h3].getD i 0, rfl, sm_c (sm_c (sm_c (sm_c (sx_c (ag hA 0 rfl (atL (k := 1600001) rfl)) (sx_c (ag hA 1 rfl (atL (k := 1600002) rfl)) (sx_n))))))⟩))) (fun gm => ?_)
  refine vdT.eqS (sa_c (sa_c (sa_c (sa_c (sa_n) setL) setL) setL) setL) ?_
  refine dCE (vs := [.ptr rg 1600000 g5 0 0, AV.int .i64 r2]) (V := fun _ => .tuple [eDiagram r3, eErr 83 r4]) (rd := [(rg, 1600000), (rg, 1600001), (rg, 1600002), (rg, 1600003), (rg, 1600004), (rg, 1600005)]) (wk := []) (wr := fun _ => []) rfl (vl' vr (vl' vr (vn))) rfl (cfo (by kernel_rfl) (cfn)) (by simp) (fun _ => rfl) (fun S' hA hB => ctrX (sx_c (ag hA 0 rfl (atL (k := 1600000) rfl)) (sx_c (ag hA 1 rfl (atL (k := 1600001) rfl)) (sx_c (ag hA 2 rfl (atL (k := 1600002) rfl)) (sx_c (ag hA 3 rfl (atL (k := 1600003) rfl)) (sx_c (ag hA 4 rfl (atL (k := 1600004) rfl)) (sx_c (ag hA 5 rfl (atL (k := 1600005) rfl)) (sx_n))))))) (algebra_result__e_ctr (dk_c (ni_c (ni_o rfl) (ni_c (ni_o rfl) (ni_c (ni_o rfl) (ni_c (ni_o rfl) (ni_c (ni_o rfl) (ni_n)))))) (dk_c (ni_c (ni_o rfl) (ni_c (ni_o rfl) (ni_c (ni_o rfl) (ni_c (ni_o rfl) (ni_n))))) (dk_c (ni_c (ni_o rfl) (ni_c (ni_o rfl) (ni_c (ni_o rfl) (ni_n)))) (dk_c (ni_c (ni_o rfl) (ni_c (ni_o rfl) (ni_n))) (dk_c (ni_c (ni_o rfl) (ni_n)) (dk_c (ni_n) (dk_n))))))) hc1 (fun _ _ he => by obtain ⟨rfl, rfl⟩ := he; exact ⟨fun i => ([] : List Nat).getD i 0, rfl, sx_c (ag hA 0 rfl (atL (k := 1600000) rfl)) (sx_c (ag hA 1 rfl (atL (k := 1600001) rfl)) (sx_c (ag hA 2 rfl (atL (k := 1600002) rfl)) (sx_c (ag hA 3 rfl (atL (k := 1600003) rfl)) (sx_c (ag hA 4 rfl (atL (k := 1600004) rfl)) (sx_c (ag hA 5 rfl (atL (k := 1600005) rfl)) (sx_n))))))⟩))) (fun _ => ?_)
  refine vdT.eqS (sa_n) ?_
  refine dP rfl rfl (o_extract (v := eDiagram r3) rfl rfl rfl (dP rfl rfl (o_extract (v := eErr 83 r4) rfl rfl rfl (dL (E := ([], [(rg, 6)])) rfl rfl (by simp) (cfo (by kernel_rfl) (cfo (by kernel_rfl) (cfn))) (o_storeB (atL (k := 6) rfl) sz25 (by decide) rfl (w := eDiagram r3) rfl rfl rfl (v := eDiagram r3) rfl setL (dP rfl rfl (o_assign (v := eErr 83 r4) rfl (dN ?_))))))))
  refine Vc.ret' ?_
  refine res_cellA (atL (k := 6) rfl) sz25 (by decide) ag25 rfl rfl (v := eDiagram r3) rfl (res_tmp (v := eErr 83 r4) rfl (res_nil ?_))
  show Gives _ (.tuple [eDiagram r3, eErr 83 r4]) _
  exact gives_out hrg (VW.tupL (vl' vr (vl' vr (vn)))) (hQ _ _ h)
theorem algebra_And_ctr {a : GDiagram} {b : GDiagram} {Q : GDiagram → Option Int → Prop} {S : St} {R : AV → St → Prop} (h : algebra_And_W a b Q) (hQ : ∀ r1 r2, Q r1 r2 → R (.tuple [eDiagram r1, eErr 83 r2]) S) :
    Ctr Try.prog 46 [eDiagram a, eDiagram b] S R := by
  unfold algebra_And_W at h
  refine enterT Try.func46 rfl Try.ntmps46 Try.results46 (by kernel_rfl) (fun rg hrg => ?_)
  refine qZ (rZ (wZ rg (o_box (v := eDiagram a) rfl rfl (kk := 3) rfl (by decide) (fun g1 => (wZ rg (o_box (v := eDiagram b) rfl rfl (kk := 3) rfl (by decide) (fun g2 => (wZ rg (o_alloc zav25 ok25 (kk := 3) rfl (fun g3 => (asZ .niface rfl (nZ (qZ (rZ (wZ rg (o_loadBA (atL (k := 2) rfl) sz25 (by decide) ag25 rfl rfl (v := eDiagram a) rfl ?_))))))))))))))))
  refine wZ rg (o_loadBA (atL (k := 3) rfl) sz25 (by decide) ag25 rfl rfl (v := eDiagram b) rfl (wZ rg (o_call (us := [eDiagram a, eDiagram b, .fn (.func 132) [] []]) rfl (vl' vr (vl' vr (vl' vr (vn)))) (algebra_both__decision_Table__And_ctr h fun r r1 h => (wZ rg (o_extract (v := eDiagram r) rfl rfl rfl (wZ rg (o_extract (v := eErr 83 r1) rfl rfl rfl ?_))))))))
  refine wZ rg (o_storeB (atL (k := 4) rfl) sz25 (by decide) rfl (w := eDiagram r) rfl rfl rfl (v := eDiagram r) rfl setL (asZ (eErr 83 r1) rfl (nZ ?_)))
  refine Vc.ret' ?_
  refine res_cellA (atL (k := 4) rfl) sz25 (by decide) ag25 rfl rfl (v := eDiagram r) rfl (res_tmp (v := eErr 83 r1) rfl (res_nil ?_))
  show Gives _ (.tuple [eDiagram r, eErr 83 r1]) _
  exact gives_out hrg (VW.tupL (vl' vr (vl' vr (vn)))) (hQ _ _ h)
theorem algebra_both__decision_Table__Or_ctr {a : GDiagram} {b : GDiagram} {Q : GDiagram → Option Int → Prop} {S : St} {R : AV → St → Prop} (h : algebra_both__decision_Table__Or_W a b Q) (hQ : ∀ r1 r2, Q r1 r2 → R (.tuple [eDiagram r1, eErr 83 r2]) S) :
    Ctr Try.prog 131 [eDiagram a, eDiagram b, .fn (.func 133) [] []] S R := by
  unfold algebra_both__decision_Table__Or_W at h
  refine enterT Try.func131 rfl Try.ntmps131 Try.results131 (by kernel_rfl) (fun rg hrg => ?_)
  refine qZ (rZ (wZ rg (o_box (v := eDiagram a) rfl rfl (kk := 3) rfl (by decide) (fun g1 => (wZ rg (o_box (v := eDiagram b) rfl rfl (kk := 3) rfl (by decide) (fun g2 => (wZ rg (o_alloc zav25 ok25 (kk := 3) rfl (fun g3 => (asZ .niface rfl (nZ (qZ (rZ (wZ rg (o_loadBA (atL (k := 3) rfl) sz25 (by decide) ag25 rfl rfl (v := eDiagram a) rfl ?_))))))))))))))))
  refine wZ rg (o_loadBA (atL (k := 4) rfl) sz25 (by decide) ag25 rfl rfl (v := eDiagram b) rfl (wZ rg (o_bslice td142 ok25 zav25 (es := [eDiagram a, eDiagram b]) rfl (kk := 3) rfl rfl rfl rfl rfl rfl (fun g4 => ?_))))
  refine Wl.wk (canon_freeze (k := 14) (xs := List.map eDiagram [a, b]) rfl (es := [(2, .fn (.func 133) [] []), (6, .ptr rg 6 g3 0 0), (14, eL eDiagram [a, b])]) (fc vr (fc vr (fc (frz_full rfl) (fn)))) (m := [(6, .arr 3 [.agg [.nil, .nil, .int .i64 0]], g3)]) (sc rfl (sn))) ?_
  refine wZ rg (o_call (us := [eL eDiagram [a, b]]) rfl (vl' vr (vn)) (algebra_open_ctr rg 1600000 1600001 1600002 1600003 1600004 1600005 h (fun r r1 h => ?_) (fun order place nodes unique memo r r1 g5 g6 g7 g8 g9 g10 h => ?_)))
  · replace h := h.1 rfl
    refine mvZ (.tuple [.nilp, eL (AV.int .i64) r, eErr 83 r1]) rfl (wZ rg (o_extract (v := .nilp) rfl rfl rfl (wZ rg (o_extract (v := eL (AV.int .i64) r) rfl rfl rfl (wZ rg (o_extract (v := eErr 83 r1) rfl rfl rfl (asZ .nilp rfl (asZ (eL (AV.int .i64) r) rfl (asZ (eErr 83 r1) rfl (nZ (qZ (qZ (rZ (mvZ (eErr 83 r1) rfl (wZ rg (o_isnon td29 (E := 83) rfl rfl rfl (nZ ?_)))))))))))))))))
    refine Vc.cond' rfl (fun hb1 => ?_) (fun hb1 => ?_)
    · replace h := h.1 hb1
      refine qZ (rZ (wZ rg (o_build td25 zav25 bok25 szs25 sz25 (ps := []) rfl rfl (v := .agg [.nil, .nil, .int .i64 0]) rfl (mvZ (eErr 83 r1) rfl (wZ rg (o_storeB (atL (k := 6) rfl) sz25 (by decide) rfl (w := .agg [.nil, .nil, .int .i64 0]) rfl rfl rfl (v := .agg [.nil, .nil, .int .i64 0]) rfl setL (asZ (eErr 83 r1) rfl (nZ ?_))))))))
      refine Vc.ret' ?_
      refine res_cellA (atL (k := 6) rfl) sz25 (by decide) ag25 rfl rfl (v := .agg [.nil, .nil, .int .i64 0]) rfl (res_tmp (v := eErr 83 r1) rfl (res_nil ?_))
      show Gives _ (.tuple [.agg [.nil, .nil, .int .i64 0], eErr 83 r1]) _
      exact gives_out hrg (VW.tupL (vl' (VW.aggL (vl' (VW.nilL) (vl' (VW.nilL) (vl' vr (vn))))) (vl' vr (vn)))) (hQ _ _ h)
    replace h := h.2 hb1
    refine Vc.skip' ?_
    refine qZ ?_
    exact h.elim
  replace h := h.2 (order, place, nodes, unique, memo) rfl
  refine Wl.eqS (sy_c (sy_c (sy_c (sy_c (sy_c (sy_c (sx_n) setL) setL) setL) setL) setL) setL) ?_
  refine mvZ (.tuple [.ptr rg 1600000 g5 0 0, eL (AV.int .i64) r, eErr 83 r1]) rfl (wZ rg (o_extract (v := .ptr rg 1600000 g5 0 0) rfl rfl rfl (wZ rg (o_extract (v := eL (AV.int .i64) r) rfl rfl rfl (wZ rg (o_extract (v := eErr 83 r1) rfl rfl rfl (asZ (.ptr rg 1600000 g5 0 0) rfl (asZ (eL (AV.int .i64) r) rfl (asZ (eErr 83 r1) rfl (nZ (qZ (qZ (rZ (mvZ (eErr 83 r1) rfl ?_))))))))))))))
  refine wZ rg (o_isnon td29 (E := 83) rfl rfl rfl (nZ ?_))
  refine Vc.cond' rfl (fun hb => ?_) (fun hb => ?_)
  · replace h := h.1 hb
    refine qZ (rZ (wZ rg (o_build td25 zav25 bok25 szs25 sz25 (ps := []) rfl rfl (v := .agg [.nil, .nil, .int .i64 0]) rfl (mvZ (eErr 83 r1) rfl (wZ rg (o_storeB (atL (k := 6) rfl) sz25 (by decide) rfl (w := .agg [.nil, .nil, .int .i64 0]) rfl rfl rfl (v := .agg [.nil, .nil, .int .i64 0]) rfl setL (asZ (eErr 83 r1) rfl (nZ ?_))))))))
    refine Vc.ret' ?_
    refine res_cellA (atL (k := 6) rfl) sz25 (by decide) ag25 rfl rfl (v := .agg [.nil, .nil, .int .i64 0]) rfl (res_tmp (v := eErr 83 r1) rfl (res_nil ?_))
    show Gives _ (.tuple [.agg [.nil, .nil, .int .i64 0], eErr 83 r1]) _
    exact gives_out hrg (VW.tupL (vl' (VW.aggL (vl' (VW.nilL) (vl' (VW.nilL) (vl' vr (vn))))) (vl' vr (vn)))) (hQ _ _ h)
  replace h := h.2 hb
  refine Vc.skip' ?_
  refine qZ ?_
  have hg := h.1
  replace h := h.2
  have hg1 := h.1
  replace h := h.2
  obtain ⟨u, u1, u2, r2, hc, h⟩ := h
  obtain ⟨r3, r4, hc1, h⟩ := h
  refine Vc.drawn' mixed rg (usOf [(9, wc (fun _ => .int .i64 r2) [(rg, 1600001), (rg, 1600002)] [(rg, 1600000), (rg, 1600003), (rg, 1600004), (rg, 1600005)] (fun gm => [(rg, 1600000, .arr 5 [.agg [.sl 1 rg 1600001 g6 0 order.length, .sl 1 rg 1600002 g7 0 place.length, .sl 3 rg 1600003 (gm 0) 0 u.length, .map rg 1600004 g9, .map rg 1600005 g10]], g5), (rg, 1600003, .arr 3 (List.map eDNode u), (gm 0)), (rg, 1600004, mapE (AV.int .i64) (.many [.i64, .i64, .i64]) u1, g9), (rg, 1600005, mapE (AV.int .i64) (.many [.i64, .i64, .i64]) u2, g10)])), (10, wc (fun _ => .tuple [eDiagram r3, eErr 83 r4]) [(rg, 1600000), (rg, 1600001), (rg, 1600002), (rg, 1600003), (rg, 1600004), (rg, 1600005)] [] (fun _ => []))]) (by kernel_rfl) ?_
  refine dP rfl rfl (o_move (v := .ptr rg 1600000 g5 0 0) rfl (dP rfl rfl (o_move (v := .fn (.func 133) [] []) rfl (dP rfl rfl (o_move (v := .ptr rg 1600000 g5 0 0) rfl (dP rfl rfl (o_move (v := eL (AV.int .i64) r) rfl (dP rfl rfl (o_idxL td22 sz3 (by decide) (fun _ => rfl) rfl rfl hg (dP rfl rfl (o_loadI1 sz3 ag3 rfl rfl (v := .int .i64 (at' r 0)) rfl ?_)))))))))))
  refine dP rfl rfl (o_move (v := eL (AV.int .i64) r) rfl (dP rfl rfl (o_idxL td22 sz3 (by decide) (fun _ => rfl) rfl rfl hg1 (dP rfl rfl (o_loadI1 sz3 ag3 rfl rfl (v := .int .i64 (at' r 1)) rfl ?_)))))
  refine dCE (vs := [.ptr rg 1600000 g5 0 0, AV.int .i64 (at' r 0), AV.int .i64 (at' r 1)]) (V := fun _ => .int .i64 r2) (rd := [(rg, 1600001), (rg, 1600002)]) (wk := [(rg, 1600000), (rg, 1600003), (rg, 1600004), (rg, 1600005)]) (wr := fun gm => [(rg, 1600000, .arr 5 [.agg [.sl 1 rg 1600001 g6 0 order.length, .sl 1 rg 1600002 g7 0 place.length, .sl 3 rg 1600003 (gm 0) 0 u.length, .map rg 1600004 g9, .map rg 1600005 g10]], g5), (rg, 1600003, .arr 3 (List.map eDNode u), (gm 0)), (rg, 1600004, mapE (AV.int .i64) (.many [.i64, .i64, .i64]) u1, g9), (rg, 1600005, mapE (AV.int .i64) (.many [.i64, .i64, .i64]) u2, g10)]) rfl (vl' vr (vl' vr (vl' vr (vn)))) rfl (cfn) (by simp) (fun _ => rfl) (fun S' hA hB => ctrX (sx_c (ag hB 0 rfl (atL (k := 1600000) rfl)) (sx_c (ag hB 1 rfl (atL (k := 1600003) rfl)) (sx_c (ag hB 2 rfl (atL (k := 1600004) rfl)) (sx_c (ag hB 3 rfl (atL (k := 1600005) rfl)) (sx_c (ag hA 0 rfl (atL (k := 1600001) rfl)) (sx_c (ag hA 1 rfl (atL (k := 1600002) rfl)) (sx_n))))))) (decision_Table__Or__e_ctr (dk_c (ni_c (ni_o rfl) (ni_c (ni_o rfl) (ni_c (ni_o rfl) (ni_c (ni_o rfl) (ni_c (ni_o rfl) (ni_n)))))) (dk_c (ni_c (ni_o rfl) (ni_c (ni_o rfl) (ni_c (ni_o rfl) (ni_c (ni_o rfl) (ni_n))))) (dk_c (ni_c (ni_o rfl) (ni_c (ni_o rfl) (ni_c (ni_o rfl) (ni_n)))) (dk_c (ni_c (ni_o rfl) (ni_c (ni_o rfl) (ni_n))) (dk_c (ni_c (ni_o rfl) (ni_n)) (dk_c (ni_n) (dk_n))))))) hc (fun _ _ _ _ h3 he => by obtain ⟨rfl, rfl, rfl, rfl⟩ := he; exact ⟨fun i => [h3].getD i 0, rfl, sm_c (sm_c (sm_c (sm_c (sx_c (ag hA 0 rfl (atL (k := 1600001) rfl)) (sx_c (ag hA 1 rfl (atL (k := 1600002) rfl)) (sx_n))))))⟩))) (fun gm => ?_)
  refine vdT.eqS (sa_c (sa_c (sa_c (sa_c (sa_n) setL) setL) setL) setL) ?_
  refine dCE (vs := [.ptr rg 1600000 g5 0 0, AV.int .i64 r2]) (V := fun _ => .tuple [eDiagram r3, eErr 83 r4]) (rd := [(rg, 1600000), (rg, 1600001), (rg, 1600002), (rg, 1600003), (rg, 1600004), (rg, 1600005)]) (wk := []) (wr := fun _ => []) rfl (vl' vr (vl' vr (vn))) rfl (cfo (by kernel_rfl) (cfn)) (by simp) (fun _ => rfl) (fun S' hA hB => ctrX (sx_c (ag hA 0 rfl (atL (k := 1600000) rfl)) (sx_c (ag hA 1 rfl (atL (k := 1600001) rfl)) (sx_c (ag hA 2 rfl (atL (k := 1600002) rfl)) (sx_c (ag hA 3 rfl (atL (k := 1600003) rfl)) (sx_c (ag hA 4 rfl (atL (k := 1600004) rfl)) (sx_c (ag hA 5 rfl (atL (k := 1600005) rfl)) (sx_n))))))) (algebra_result__e_ctr (dk_c (ni_c (ni_o rfl) (ni_c (ni_o rfl) (ni_c (ni_o rfl) (ni_c (ni_o rfl) (ni_c (ni_o rfl) (ni_n)))))) (dk_c (ni_c (ni_o rfl) (ni_c (ni_o rfl) (ni_c (ni_o rfl) (ni_c (ni_o rfl) (ni_n))))) (dk_c (ni_c (ni_o rfl) (ni_c (ni_o rfl) (ni_c (ni_o rfl) (ni_n)))) (dk_c (ni_c (ni_o rfl) (ni_c (ni_o rfl) (ni_n))) (dk_c (ni_c (ni_o rfl) (ni_n)) (dk_c (ni_n) (dk_n))))))) hc1 (fun _ _ he => by obtain ⟨rfl, rfl⟩ := he; exact ⟨fun i => ([] : List Nat).getD i 0, rfl, sx_c (ag hA 0 rfl (atL (k := 1600000) rfl)) (sx_c (ag hA 1 rfl (atL (k := 1600001) rfl)) (sx_c (ag hA 2 rfl (atL (k := 1600002) rfl)) (sx_c (ag hA 3 rfl (atL (k := 1600003) rfl)) (sx_c (ag hA 4 rfl (atL (k := 1600004) rfl)) (sx_c (ag hA 5 rfl (atL (k := 1600005) rfl)) (sx_n))))))⟩))) (fun _ => ?_)
  refine vdT.eqS (sa_n) ?_
  refine dP rfl rfl (o_extract (v := eDiagram r3) rfl rfl rfl (dP rfl rfl (o_extract (v := eErr 83 r4) rfl rfl rfl (dL (E := ([], [(rg, 6)])) rfl rfl (by simp) (cfo (by kernel_rfl) (cfo (by kernel_rfl) (cfn))) (o_storeB (atL (k := 6) rfl) sz25 (by decide) rfl (w := eDiagram r3) rfl rfl rfl (v := eDiagram r3) rfl setL (dP rfl rfl (o_assign (v := eErr 83 r4) rfl (dN ?_))))))))
  refine Vc.ret' ?_
  refine res_cellA (atL (k := 6) rfl) sz25 (by decide) ag25 rfl rfl (v := eDiagram r3) rfl (res_tmp (v := eErr 83 r4) rfl (res_nil ?_))
  show Gives _ (.tuple [eDiagram r3, eErr 83 r4]) _
  exact gives_out hrg (VW.tupL (vl' vr (vl' vr (vn)))) (hQ _ _ h)
theorem algebra_Or_ctr {a : GDiagram} {b : GDiagram} {Q : GDiagram → Option Int → Prop} {S : St} {R : AV → St → Prop} (h : algebra_Or_W a b Q) (hQ : ∀ r1 r2, Q r1 r2 → R (.tuple [eDiagram r1, eErr 83 r2]) S) :
    Ctr Try.prog 47 [eDiagram a, eDiagram b] S R := by
  unfold algebra_Or_W at h
  refine enterT Try.func47 rfl Try.ntmps47 Try.results47 (by kernel_rfl) (fun rg hrg => ?_)
  refine qZ (rZ (wZ rg (o_box (v := eDiagram a) rfl rfl (kk := 3) rfl (by decide) (fun g1 => (wZ rg (o_box (v := eDiagram b) rfl rfl (kk := 3) rfl (by decide) (fun g2 => (wZ rg (o_alloc zav25 ok25 (kk := 3) rfl (fun g3 => (asZ .niface rfl (nZ (qZ (rZ (wZ rg (o_loadBA (atL (k := 2) rfl) sz25 (by decide) ag25 rfl rfl (v := eDiagram a) rfl ?_))))))))))))))))
  refine wZ rg (o_loadBA (atL (k := 3) rfl) sz25 (by decide) ag25 rfl rfl (v := eDiagram b) rfl (wZ rg (o_call (us := [eDiagram a, eDiagram b, .fn (.func 133) [] []]) rfl (vl' vr (vl' vr (vl' vr (vn)))) (algebra_both__decision_Table__Or_ctr h fun r r1 h => (wZ rg (o_extract (v := eDiagram r) rfl rfl rfl (wZ rg (o_extract (v := eErr 83 r1) rfl rfl rfl ?_))))))))
  refine wZ rg (o_storeB (atL (k := 4) rfl) sz25 (by decide) rfl (w := eDiagram r) rfl rfl rfl (v := eDiagram r) rfl setL (asZ (eErr 83 r1) rfl (nZ ?_)))
  refine Vc.ret' ?_
  refine res_cellA (atL (k := 4) rfl) sz25 (by decide) ag25 rfl rfl (v := eDiagram r) rfl (res_tmp (v := eErr 83 r1) rfl (res_nil ?_))
  show Gives _ (.tuple [eDiagram r, eErr 83 r1]) _
  exact gives_out hrg (VW.tupL (vl' vr (vl' vr (vn)))) (hQ _ _ h)
end Go.Proofs.Ytllegjdggcmgaaa
/- Walks of functions. Conditions: none. -/
namespace Go.Proofs.Ytllegjdggcmgaaa
open Go.Gg
set_option maxRecDepth 100000
theorem ref14_Check_ctr {o : List Int} {vars : Int} {Q : Int → Prop} {S : St} {R : AV → St → Prop} (h : ref14_Check_W o vars Q) (hQ : ∀ r1, Q r1 → R (AV.int .i64 r1) S) :
    Ctr Try.prog 71 [eL (AV.int .i64) o, AV.int .i64 vars] S R := by
  unfold ref14_Check_W at h
  refine enterT Try.func71 rfl Try.ntmps71 Try.results71 (by kernel_rfl) (fun rg hrg => ?_)
  refine qZ (rZ (asZ (.int .i64 0) rfl (nZ (qZ (qZ (rZ (mvZ (.int .i64 vars) rfl (wZ rg (o_lss rfl rfl (mvZ (.bool (decide (vars < 0))) rfl ?_))))))))))
  refine Wl.guard rfl rfl (fun hb => ?_) (fun hb => ?_)
  · replace h := h.2 hb
    refine mvZ (.int .i64 vars) rfl ?_
    refine Wl.guardT rfl rfl hb ?_
    refine wZ rg (o_gtr rfl rfl (wZ rg (o_pickF rfl hb (v := .bool (decide (24 < vars))) rfl (nZ ?_))))
    refine Vc.cond' rfl (fun hb1 => ?_) (fun hb1 => ?_)
    · replace h := h.1 hb1
      refine qZ (rZ (asZ (.int .i64 3) rfl (nZ ?_)))
      refine Vc.ret' ?_
      refine res_tmp (v := .int .i64 3) rfl (res_nil ?_)
      show Gives _ (.int .i64 3) _
      exact gives_out hrg (VW.refl _) (hQ _ h)
    replace h := h.2 hb1
    refine Vc.skip' ?_
    refine qZ (qZ (rZ (mvZ (eL (AV.int .i64) o) rfl (wZ rg (o_len td22 rfl (mvZ (.int .i64 vars) rfl (wZ rg (o_neq rfl rfl (nZ ?_)))))))))
    refine Vc.cond' rfl (fun hb2 => ?_) (fun hb2 => ?_)
    · replace h := h.1 hb2
      refine qZ (rZ (asZ (.int .i64 11) rfl (nZ ?_)))
      refine Vc.ret' ?_
      refine res_tmp (v := .int .i64 11) rfl (res_nil ?_)
      show Gives _ (.int .i64 11) _
      exact gives_out hrg (VW.refl _) (hQ _ h)
    replace h := h.2 hb2
    refine Vc.skip' ?_
    refine qZ (qZ (rZ (asZ (.int .i64 0) rfl (nZ ?_))))
    refine Vc.blk ?_
    obtain ⟨I, μ, h0, hI⟩ := h
    refine Vc.loop' (σ := (Int)) (fun y => I y) (fun y => μ y) (fun y => envOf [(0, eL (AV.int .i64) o), (1, .int .i64 vars), (5, .int .i64 y)]) (fun y => stL S rg []) 0 (canon (fc vr (fc vr (fc vr (fn)))) (sn)) h0 (fun i h => ?_)
    replace h := hI i h
    show Vc _ _ _ _ (envOf [(0, eL (AV.int .i64) o), (1, .int .i64 vars), (5, .int .i64 i)]) (stL S rg [])
    refine qZ (qZ (rZ (mvZ (.int .i64 i) rfl (mvZ (.int .i64 vars) rfl (wZ rg (o_lss rfl rfl (nZ ?_)))))))
    refine Vc.cond' rfl (fun hb3 => ?_) (fun hb3 => ?_)
    · replace h := h.1 hb3
      refine Vc.skip' ?_
      refine qZ ?_
      refine Vc.blk ?_
      refine qZ (qZ (rZ (mvZ (eL (AV.int .i64) o) rfl (mvZ (.int .i64 i) rfl (wZ rg (o_idxL td22 sz3 (by decide) (fun _ => rfl) rfl rfl h.1 ?_))))))
      replace h := h.2
      refine wZ rg (o_loadI1 sz3 ag3 rfl rfl (v := .int .i64 (at' o i)) rfl (wZ rg (o_lss rfl rfl (mvZ (.bool (decide ((at' o i) < 0))) rfl ?_))))
      refine Wl.guard rfl rfl (fun hb4 => ?_) (fun hb4 => ?_)
      · replace h := h.2 hb4
        refine mvZ (eL (AV.int .i64) o) rfl ?_
        refine Wl.guardT rfl rfl hb4 ?_
        refine mvZ (.int .i64 i) rfl ?_
        refine Wl.guardT rfl rfl hb4 ?_
        refine wZ rg (o_idxL td22 sz3 (by decide) (fun _ => rfl) rfl rfl h.1 ?_)
        replace h := h.2
        refine Wl.guardT rfl rfl hb4 ?_
        refine wZ rg (o_loadI1 sz3 ag3 rfl rfl (v := .int .i64 (at' o i)) rfl ?_)
        refine Wl.guardT rfl rfl hb4 ?_
        refine mvZ (.int .i64 vars) rfl ?_
        refine Wl.guardT rfl rfl hb4 ?_
        refine wZ rg (o_geq rfl rfl (wZ rg (o_pickF rfl hb4 (v := .bool (decide (vars ≤ (at' o i)))) rfl (nZ ?_))))
        refine Vc.cond' rfl (fun hb5 => ?_) (fun hb5 => ?_)
        · replace h := h.1 hb5
          refine qZ (rZ (asZ (.int .i64 3) rfl (nZ ?_)))
          refine Vc.ret' ?_
          refine res_tmp (v := .int .i64 3) rfl (res_nil ?_)
          show Gives _ (.int .i64 3) _
          exact gives_out hrg (VW.refl _) (hQ _ h)
        replace h := h.2 hb5
        refine Vc.skip' ?_
        refine qZ (rZ (asZ (.int .i64 0) rfl (nZ ?_)))
        refine Vc.blk ?_
        obtain ⟨I, μ, h0, hI⟩ := h
        refine Vc.loop' (σ := (Int)) (fun y => I y) (fun y => μ y) (fun y => envOf [(0, eL (AV.int .i64) o), (1, .int .i64 vars), (5, .int .i64 i), (6, .int .i64 y)]) (fun y => stL S rg []) 0 (canon (fc vr (fc vr (fc vr (fc vr (fn))))) (sn)) h0 (fun k1 h => ?_)
        replace h := hI k1 h
        show Vc _ _ _ _ (envOf [(0, eL (AV.int .i64) o), (1, .int .i64 vars), (5, .int .i64 i), (6, .int .i64 k1)]) (stL S rg [])
        refine qZ (qZ (rZ (mvZ (.int .i64 k1) rfl (mvZ (.int .i64 i) rfl (wZ rg (o_lss rfl rfl (nZ ?_)))))))
        refine Vc.cond' rfl (fun hb6 => ?_) (fun hb6 => ?_)
        · replace h := h.1 hb6
          refine Vc.skip' ?_
          refine qZ ?_
          refine Vc.blk ?_
          refine qZ ?_
          have hg := h.1
          replace h := h.2
          have hg1 := h.1
          replace h := h.2
          refine Vc.drawn' mixed rg (fun _ => jcr2) (by kernel_rfl) ?_
          refine dP rfl rfl (o_move (v := eL (AV.int .i64) o) rfl (dP rfl rfl (o_move (v := .int .i64 k1) rfl (dP rfl rfl (o_idxL td22 sz3 (by decide) (fun _ => rfl) rfl rfl hg (dP rfl rfl (o_loadI1 sz3 ag3 rfl rfl (v := .int .i64 (at' o k1)) rfl (dP rfl rfl (o_move (v := eL (AV.int .i64) o) rfl (dP rfl rfl (o_move (v := .int .i64 i) rfl ?_)))))))))))
          refine dP rfl rfl (o_idxL td22 sz3 (by decide) (fun _ => rfl) rfl rfl hg1 (dP rfl rfl (o_loadI1 sz3 ag3 rfl rfl (v := .int .i64 (at' o i)) rfl (dP rfl rfl (o_eql rfl rfl (dN ?_))))))
          refine Vc.cond' rfl (fun hb7 => ?_) (fun hb7 => ?_)
          · replace h := h.1 hb7
            refine qZ (rZ (asZ (.int .i64 6) rfl (nZ ?_)))
            refine Vc.ret' ?_
            refine res_tmp (v := .int .i64 6) rfl (res_nil ?_)
            show Gives _ (.int .i64 6) _
            exact gives_out hrg (VW.refl _) (hQ _ h)
          replace h := h.2 hb7
          refine Vc.skip' ?_
          refine rZ ?_
          refine mvZ (.int .i64 k1) rfl (wZ rg (o_addG rfl rfl h.1 ?_))
          replace h := h.2
          refine asZ (.int .i64 (k1 + 1)) rfl (nZ ?_)
          exact ⟨(k1 + 1), (canon (fc vr (fc vr (fc vr (fc vr (fn))))) (sn)), h⟩
        replace h := h.2 hb6
        refine Vc.exit' (exB_self ?_)
        refine rZ ?_
        refine mvZ (.int .i64 i) rfl (wZ rg (o_addG rfl rfl h.1 ?_))
        replace h := h.2
        refine asZ (.int .i64 (i + 1)) rfl (nZ ?_)
        exact ⟨(i + 1), (canon (fc vr (fc vr (fc vr (fn)))) (sn)), h⟩
      replace h := h.1 hb4
      refine Wl.guardF rfl rfl hb4 rfl ?_
      refine Wl.guardF rfl rfl hb4 rfl ?_
      refine Wl.guardF rfl rfl hb4 rfl ?_
      refine Wl.guardF rfl rfl hb4 rfl ?_
      refine Wl.guardF rfl rfl hb4 rfl ?_
      refine wZ rg (o_pickT rfl hb4 (v := .bool true) rfl (nZ ?_))
      refine Vc.cond' rfl (fun _ => ?_) (fun hb => Bool.noConfusion hb)
      refine qZ (rZ (asZ (.int .i64 3) rfl (nZ ?_)))
      refine Vc.ret' ?_
      refine res_tmp (v := .int .i64 3) rfl (res_nil ?_)
      show Gives _ (.int .i64 3) _
      exact gives_out hrg (VW.refl _) (hQ _ h)
    replace h := h.2 hb3
    refine Vc.exit' (exB_self ?_)
    refine qZ (rZ (asZ (.int .i64 0) rfl (nZ ?_)))
    refine Vc.ret' ?_
    refine res_tmp (v := .int .i64 0) rfl (res_nil ?_)
    show Gives _ (.int .i64 0) _
    exact gives_out hrg (VW.refl _) (hQ _ h)
  replace h := h.1 hb
  refine Wl.guardF rfl rfl hb rfl ?_
  refine wZ rg (o_pickT rfl hb (v := .bool true) rfl (nZ ?_))
  refine Vc.cond' rfl (fun _ => ?_) (fun hb => Bool.noConfusion hb)
  refine qZ (rZ (asZ (.int .i64 3) rfl (nZ ?_)))
  refine Vc.ret' ?_
  refine res_tmp (v := .int .i64 3) rfl (res_nil ?_)
  show Gives _ (.int .i64 3) _
  exact gives_out hrg (VW.refl _) (hQ _ h)
end Go.Proofs.Ytllegjdggcmgaaa
/- Walks of functions. Conditions: none. -/
namespace Go.Proofs.Ytllegjdggcmgaaa
open Go.Gg
set_option maxRecDepth 100000
theorem ref14_Place_ctr {l : List Int} {n : Int} {Q : Int → Prop} {S : St} {R : AV → St → Prop} (h : ref14_Place_W l n Q) (hQ : ∀ r1, Q r1 → R (AV.int .i64 r1) S) :
    Ctr Try.prog 150 [eL (AV.int .i64) l, AV.int .i64 n] S R := by
  unfold ref14_Place_W at h
  refine enterT Try.func150 rfl Try.ntmps150 Try.results150 (by kernel_rfl) (fun rg hrg => ?_)
  refine qZ (rZ (asZ (.int .i64 0) rfl (nZ (qZ (qZ (rZ (asZ (.int .i64 0) rfl (nZ ?_))))))))
  refine Vc.blk ?_
  obtain ⟨I, μ, h0, hI⟩ := h
  refine Vc.loop' (σ := (Int)) (fun y => I y) (fun y => μ y) (fun y => envOf [(0, eL (AV.int .i64) l), (1, .int .i64 n), (5, .int .i64 y)]) (fun y => stL S rg []) 0 (canon (fc vr (fc vr (fc vr (fn)))) (sn)) h0 (fun i h => ?_)
  replace h := hI i h
  show Vc _ _ _ _ (envOf [(0, eL (AV.int .i64) l), (1, .int .i64 n), (5, .int .i64 i)]) (stL S rg [])
  refine qZ (qZ (rZ (mvZ (.int .i64 i) rfl (mvZ (eL (AV.int .i64) l) rfl (wZ rg (o_len td22 rfl (wZ rg (o_lss rfl rfl (nZ ?_)))))))))
  refine Vc.cond' rfl (fun hb => ?_) (fun hb => ?_)
  · replace h := h.1 hb
    refine Vc.skip' ?_
    refine qZ ?_
    refine Vc.blk ?_
    refine qZ (rZ (mvZ (eL (AV.int .i64) l) rfl (mvZ (.int .i64 i) rfl (wZ rg (o_idxL td22 sz3 (by decide) (fun _ => rfl) rfl rfl h.1 ?_)))))
    replace h := h.2
    refine wZ rg (o_loadI1 sz3 ag3 rfl rfl (v := .int .i64 (at' l i)) rfl (mvZ (.int .i64 n) rfl (wZ rg (o_eql rfl rfl (nZ ?_)))))
    refine Vc.cond' rfl (fun hb1 => ?_) (fun hb1 => ?_)
    · replace h := h.1 hb1
      refine qZ (rZ (mvZ (.int .i64 i) rfl (asZ (.int .i64 i) rfl (nZ ?_))))
      refine Vc.ret' ?_
      refine res_tmp (v := .int .i64 i) rfl (res_nil ?_)
      show Gives _ (.int .i64 i) _
      exact gives_out hrg (VW.refl _) (hQ _ h)
    replace h := h.2 hb1
    refine Vc.skip' ?_
    refine rZ ?_
    refine mvZ (.int .i64 i) rfl (wZ rg (o_addG rfl rfl h.1 ?_))
    replace h := h.2
    refine asZ (.int .i64 (i + 1)) rfl (nZ ?_)
    exact ⟨(i + 1), (canon (fc vr (fc vr (fc vr (fn)))) (sn)), h⟩
  replace h := h.2 hb
  refine Vc.exit' (exB_self ?_)
  refine qZ (rZ (asZ (.int .i64 (-1)) rfl (nZ ?_)))
  refine Vc.ret' ?_
  refine res_tmp (v := .int .i64 (-1)) rfl (res_nil ?_)
  show Gives _ (.int .i64 (-1)) _
  exact gives_out hrg (VW.refl _) (hQ _ h)
theorem ref14_Place__r0_ctr {l : List Int} {lo : Nat} {ll : Nat} {n : Int} {q0 k0 g0 : Nat} {Q : List Int → Int → Prop} {S : St} {R : AV → St → Prop} (h : ref14_Place__r0_W l lo ll n Q) (hQ : ∀ r1 r2, Q r1 r2 → R (AV.int .i64 r2) (stX S [(q0, k0, .arr 1 (List.map (AV.int .i64) r1), g0)])) :
    Ctr Try.prog 150 [.sl 1 q0 k0 g0 lo ll, AV.int .i64 n] (stX S [(q0, k0, .arr 1 (List.map (AV.int .i64) l), g0)]) R := by
  unfold ref14_Place__r0_W at h
  refine enterT Try.func150 rfl Try.ntmps150 Try.results150 (by kernel_rfl) (fun rg hrg => ?_)
  have hdx : DX [(q0, k0, .arr 1 (List.map (AV.int .i64) l), g0)] := dx1
  have hfr := fun X' e => fresh_set (S := S) (rg := rg) (X := [(q0, k0, .arr 1 (List.map (AV.int .i64) l), g0)]) (X' := X') e hrg
  have hne0 := fresh_ne hdx hrg 0 rfl
  refine qZ (rZ (asZ (.int .i64 0) rfl (nZ (qZ (qZ (rZ (asZ (.int .i64 0) rfl (nZ ?_))))))))
  refine Vc.blk ?_
  obtain ⟨I, μ, h0, hI⟩ := h
  refine Vc.loop' (σ := (Int)) (fun y => I y) (fun y => μ y) (fun y => envOf [(0, .sl 1 q0 k0 g0 lo ll), (1, .int .i64 n), (5, .int .i64 y)]) (fun y => stL (stX S [(q0, k0, .arr 1 (List.map (AV.int .i64) l), g0)]) rg []) 0 (canon (fc vr (fc vr (fc vr (fn)))) (sn)) h0 (fun i h => ?_)
  replace h := hI i h
  show Vc _ _ _ _ (envOf [(0, .sl 1 q0 k0 g0 lo ll), (1, .int .i64 n), (5, .int .i64 i)]) (stL (stX S [(q0, k0, .arr 1 (List.map (AV.int .i64) l), g0)]) rg [])
  refine qZ (qZ (rZ (mvZ (.int .i64 i) rfl (mvZ (.sl 1 q0 k0 g0 lo ll) rfl (wZ rg (o_lenR td22 rfl (wZ rg (o_lss rfl rfl (nZ ?_)))))))))
  refine Vc.cond' rfl (fun hb => ?_) (fun hb => ?_)
  · replace h := h.1 hb
    refine Vc.skip' ?_
    refine qZ ?_
    refine Vc.blk ?_
    refine qZ (rZ (mvZ (.sl 1 q0 k0 g0 lo ll) rfl (mvZ (.int .i64 i) rfl (wZ rg (o_idxRO td22 sz3 (by decide) rfl rfl h.1 ?_)))))
    have hi := h.1
    replace h := h.2
    refine wZ rg (o_loadR1 (atX hne0 hdx 0 rfl) sz3 ag3 rfl (h.1) rfl (v := .int .i64 (at' l ((lo : Int) + i))) rfl ?_)
    replace h := h.2
    refine mvZ (.int .i64 n) rfl (wZ rg (o_eql rfl rfl (nZ ?_)))
    refine Vc.cond' rfl (fun hb1 => ?_) (fun hb1 => ?_)
    · replace h := h.1 hb1
      refine qZ (rZ (mvZ (.int .i64 i) rfl (asZ (.int .i64 i) rfl (nZ ?_))))
      refine Vc.ret' ?_
      refine res_tmp (v := .int .i64 i) rfl (res_nil ?_)
      show Gives _ (.int .i64 i) _
      exact gives_out (hfr _ rfl) (VW.refl _) (hQ _ _ h)
    replace h := h.2 hb1
    refine Vc.skip' ?_
    refine rZ ?_
    refine mvZ (.int .i64 i) rfl (wZ rg (o_addG rfl rfl h.1 ?_))
    replace h := h.2
    refine asZ (.int .i64 (i + 1)) rfl (nZ ?_)
    exact ⟨(i + 1), (canon (fc vr (fc vr (fc vr (fn)))) (sn)), h⟩
  replace h := h.2 hb
  refine Vc.exit' (exB_self ?_)
  refine qZ (rZ (asZ (.int .i64 (-1)) rfl (nZ ?_)))
  refine Vc.ret' ?_
  refine res_tmp (v := .int .i64 (-1)) rfl (res_nil ?_)
  show Gives _ (.int .i64 (-1)) _
  exact gives_out (hfr _ rfl) (VW.refl _) (hQ _ _ h)
end Go.Proofs.Ytllegjdggcmgaaa
/- Walks of functions. Conditions: none. -/
namespace Go.Proofs.Ytllegjdggcmgaaa
open Go.Gg
set_option maxRecDepth 100000
theorem ref15_behind_ctr {d : GDiagram} {ref : Int} {event : Int} {Q : Bool → Prop} {S : St} {R : AV → St → Prop} (h : ref15_behind_W d ref event Q) (hQ : ∀ r1, Q r1 → R (AV.bool r1) S) :
    Ctr Try.prog 187 [eDiagram d, AV.int .i64 ref, AV.int .i64 event] S R := by
  unfold ref15_behind_W at h
  refine enterT Try.func187 rfl Try.ntmps187 Try.results187 (by kernel_rfl) (fun rg hrg => ?_)
  refine qZ (rZ (wZ rg (o_box (v := eDiagram d) rfl rfl (kk := 3) rfl (by decide) (fun g1 => (asZ (.bool false) rfl (nZ (qZ ?_)))))))
  rcases Bool.eq_false_or_eq_true (decide (ref < 2)) with hb | hb
  · replace h := h.1 hb
    refine Vc.drawn' mixed rg (fun _ => jcr2) (by kernel_rfl) ?_
    refine dP rfl rfl (o_move (v := .int .i64 ref) rfl (dP rfl rfl (o_lss rfl rfl (dP rfl rfl (o_move (v := .bool (decide (ref < 2))) rfl ?_)))))
    refine dGF rfl rfl hb rfl ?_
    refine dGF rfl rfl rfl rfl ?_
    refine dGF rfl rfl rfl rfl ?_
    refine dGF rfl rfl rfl rfl ?_
    refine dGF rfl rfl rfl rfl ?_
    refine dGF rfl rfl rfl rfl ?_
    refine dGF rfl rfl rfl rfl ?_
    refine dGF rfl rfl rfl rfl ?_
    refine dGF rfl rfl rfl rfl ?_
    refine dGF rfl rfl rfl rfl ?_
    refine dGF rfl rfl rfl rfl ?_
    refine dGF rfl rfl rfl rfl ?_
    refine dGF rfl rfl rfl rfl ?_
    refine dGF rfl rfl rfl rfl ?_
    refine dGF rfl rfl rfl rfl ?_
    refine dP rfl rfl (o_pickT rfl rfl (v := .bool true) rfl (dP rfl rfl (o_assign (v := .bool true) rfl (dN ?_))))
    refine Vc.ret' ?_
    refine res_tmp (v := .bool true) rfl (res_nil ?_)
    show Gives _ (.bool true) _
    exact gives_out hrg (VW.refl _) (hQ _ h)
  replace h := h.2 hb
  have hg := h.1
  replace h := h.2
  have hg1 := h.1
  replace h := h.2
  obtain ⟨r, hc, h⟩ := h
  obtain ⟨r1, hc1, h⟩ := h
  refine Vc.drawn' mixed rg (usOf [(12, pc (.int .i64 r)), (16, pc (.int .i64 r1))]) (by kernel_rfl) ?_
  refine dP rfl rfl (o_move (v := .int .i64 ref) rfl (dP rfl rfl (o_lss rfl rfl (dP rfl rfl (o_move (v := .bool (decide (ref < 2))) rfl ?_)))))
  refine dGT rfl rfl hb ?_
  refine dP rfl rfl (o_faP td25 rfl rfl (by rw [sz22]; decide) rfl ?_)
  refine dGT rfl rfl rfl ?_
  refine dL (E := ([(rg, 3)], [])) rfl rfl (by simp) (cfn) (o_loadB1 (atL (k := 3) rfl) sz22 ag22 rfl rfl (v := eL (AV.int .i64) d.Order) rfl ?_)
  refine dGT rfl rfl rfl ?_
  refine dP rfl rfl (o_faP td25 rfl rfl (by rw [sz23]; decide) rfl ?_)
  refine dGT rfl rfl rfl ?_
  refine dL (E := ([(rg, 3)], [])) rfl rfl (by simp) (cfa (by simp [apartE]) (cfn)) (o_loadB1 (atL (k := 3) rfl) sz23 ag23 rfl rfl (v := eL eDNode d.Nodes) rfl ?_)
  refine dGT rfl rfl rfl ?_
  refine dP rfl rfl (o_move (v := .int .i64 ref) rfl ?_)
  refine dGT rfl rfl rfl ?_
  refine dP rfl rfl (o_subG rfl rfl hg ?_)
  refine dGT rfl rfl rfl ?_
  refine dP rfl rfl (o_idxL td23 sz134 (by decide) (fun _ => rfl) rfl rfl hg1 ?_)
  refine dGT rfl rfl rfl ?_
  refine dP rfl rfl (o_fa td134 rfl rfl (by rw [sz3]; decide) rfl rfl ?_)
  refine dGT rfl rfl rfl ?_
  refine dP rfl rfl (o_loadI1 sz3 ag3 rfl rfl (v := .int .i64 ((at' d.Nodes (ref - 2)).Var)) rfl ?_)
  refine dGT rfl rfl rfl ?_
  refine dC (vs := [eL (AV.int .i64) d.Order, AV.int .i64 ((at' d.Nodes (ref - 2)).Var)]) rfl (vl' vr (vl' vr (vn))) (fun _ => ref14_Place_ctr hc (fun _ hr => ⟨by rw [hr], rfl⟩)) rfl ?_
  refine dGT rfl rfl rfl ?_
  refine dP rfl rfl (o_faP td25 rfl rfl (by rw [sz22]; decide) rfl ?_)
  refine dGT rfl rfl rfl ?_
  refine dL (E := ([(rg, 3)], [])) rfl rfl (by simp) (cfa (by simp [apartE]) (cfa (by simp [apartE]) (cfn))) (o_loadB1 (atL (k := 3) rfl) sz22 ag22 rfl rfl (v := eL (AV.int .i64) d.Order) rfl ?_)
  refine dGT rfl rfl rfl ?_
  refine dP rfl rfl (o_move (v := .int .i64 event) rfl ?_)
  refine dGT rfl rfl rfl ?_
  refine dC (vs := [eL (AV.int .i64) d.Order, AV.int .i64 event]) rfl (vl' vr (vl' vr (vn))) (fun _ => ref14_Place_ctr hc1 (fun _ hr => ⟨by rw [hr], rfl⟩)) rfl ?_
  refine dGT rfl rfl rfl ?_
  refine dP rfl rfl (o_gtr rfl rfl (dP rfl rfl (o_pickF rfl rfl (v := .bool (decide (r1 < r))) rfl (dP rfl rfl (o_assign (v := .bool (decide (r1 < r))) rfl (dN ?_))))))
  refine Vc.ret' ?_
  refine res_tmp (v := .bool (decide (r1 < r))) rfl (res_nil ?_)
  show Gives _ (.bool (decide (r1 < r))) _
  exact gives_out hrg (VW.refl _) (hQ _ h)
theorem ref15_node_ctr {d : GDiagram} {i : Int} {Q : Int → Prop} {S : St} {R : AV → St → Prop} (h : ref15_node_W d i Q) (hQ : ∀ r1, Q r1 → R (AV.int .i64 r1) S) :
    Ctr Try.prog 127 [eDiagram d, AV.int .i64 i] S R := by
  unfold ref15_node_W at h
  refine enterT Try.func127 rfl Try.ntmps127 Try.results127 (by kernel_rfl) (fun rg hrg => ?_)
  refine qZ (rZ (wZ rg (o_box (v := eDiagram d) rfl rfl (kk := 3) rfl (by decide) (fun g1 => (asZ (.int .i64 0) rfl (nZ (qZ (rZ (wZ rg (o_faP td25 rfl rfl (by rw [sz23]; decide) rfl (wZ rg (o_loadB1 (atL (k := 2) rfl) sz23 ag23 rfl rfl (v := eL eDNode d.Nodes) rfl (mvZ (.int .i64 i) rfl (wZ rg (o_idxL td23 sz134 (by decide) (fun _ => rfl) rfl rfl h.1 ?_)))))))))))))))
  replace h := h.2
  refine wZ rg (o_loadIA sz134 (by decide) ag134 rfl rfl (v := eDNode (at' d.Nodes i)) rfl (wZ rg (o_alloc zav134 ok134 (kk := 3) rfl (fun g2 => (wZ rg (o_storeB (atL (k := 5) rfl) sz134 (by decide) rfl (w := eDNode (at' d.Nodes i)) rfl rfl rfl (v := eDNode (at' d.Nodes i)) rfl setL (nZ (qZ (qZ (rZ (wZ rg (o_faP td134 rfl rfl (by rw [sz3]; decide) rfl ?_))))))))))))
  refine wZ rg (o_loadB1 (atL (k := 5) rfl) sz3 ag3 rfl rfl (v := .int .i64 ((at' d.Nodes i).Var)) rfl (wZ rg (o_lss rfl rfl (mvZ (.bool (decide ((at' d.Nodes i).Var < 0))) rfl ?_))))
  refine Wl.guard rfl rfl (fun hb => ?_) (fun hb => ?_)
  · replace h := h.2 hb
    refine wZ rg (o_faP td134 rfl rfl (by rw [sz3]; decide) rfl ?_)
    refine Wl.guardT rfl rfl hb ?_
    refine wZ rg (o_loadB1 (atL (k := 5) rfl) sz3 ag3 rfl rfl (v := .int .i64 ((at' d.Nodes i).Var)) rfl ?_)
    refine Wl.guardT rfl rfl hb ?_
    refine wZ rg (o_faP td25 rfl rfl (by rw [sz22]; decide) rfl ?_)
    refine Wl.guardT rfl rfl hb ?_
    refine wZ rg (o_loadB1 (atL (k := 2) rfl) sz22 ag22 rfl rfl (v := eL (AV.int .i64) d.Order) rfl ?_)
    refine Wl.guardT rfl rfl hb ?_
    refine wZ rg (o_len td22 rfl ?_)
    refine Wl.guardT rfl rfl hb ?_
    refine wZ rg (o_geq rfl rfl (wZ rg (o_pickF rfl hb (v := .bool (decide ((d.Order.length : Int) ≤ (at' d.Nodes i).Var))) rfl (mvZ (.bool (decide ((d.Order.length : Int) ≤ (at' d.Nodes i).Var))) rfl ?_))))
    refine Wl.guard rfl rfl (fun hb1 => ?_) (fun hb1 => ?_)
    · replace h := h.2 hb1
      refine wZ rg (o_faP td134 rfl rfl (by rw [sz3]; decide) rfl ?_)
      refine Wl.guardT rfl rfl hb1 ?_
      refine wZ rg (o_loadB1 (atL (k := 5) rfl) sz3 ag3 rfl rfl (v := .int .i64 ((at' d.Nodes i).Lo)) rfl ?_)
      refine Wl.guardT rfl rfl hb1 ?_
      refine wZ rg (o_lss rfl rfl (wZ rg (o_pickF rfl hb1 (v := .bool (decide ((at' d.Nodes i).Lo < 0))) rfl (mvZ (.bool (decide ((at' d.Nodes i).Lo < 0))) rfl ?_))))
      refine Wl.guard rfl rfl (fun hb2 => ?_) (fun hb2 => ?_)
      · replace h := h.2 hb2
        refine wZ rg (o_faP td134 rfl rfl (by rw [sz3]; decide) rfl ?_)
        refine Wl.guardT rfl rfl hb2 ?_
        refine wZ rg (o_loadB1 (atL (k := 5) rfl) sz3 ag3 rfl rfl (v := .int .i64 ((at' d.Nodes i).Lo)) rfl ?_)
        refine Wl.guardT rfl rfl hb2 ?_
        refine mvZ (.int .i64 i) rfl ?_
        refine Wl.guardT rfl rfl hb2 ?_
        refine wZ rg (o_addG rfl rfl h.1 ?_)
        replace h := h.2
        refine Wl.guardT rfl rfl hb2 ?_
        refine wZ rg (o_gtr rfl rfl (wZ rg (o_pickF rfl hb2 (v := .bool (decide ((i + 1) < (at' d.Nodes i).Lo))) rfl (mvZ (.bool (decide ((i + 1) < (at' d.Nodes i).Lo))) rfl ?_))))
        refine Wl.guard rfl rfl (fun hb3 => ?_) (fun hb3 => ?_)
        · replace h := h.2 hb3
          refine wZ rg (o_faP td134 rfl rfl (by rw [sz3]; decide) rfl ?_)
          refine Wl.guardT rfl rfl hb3 ?_
          refine wZ rg (o_loadB1 (atL (k := 5) rfl) sz3 ag3 rfl rfl (v := .int .i64 ((at' d.Nodes i).Hi)) rfl ?_)
          refine Wl.guardT rfl rfl hb3 ?_
          refine wZ rg (o_lss rfl rfl (wZ rg (o_pickF rfl hb3 (v := .bool (decide ((at' d.Nodes i).Hi < 0))) rfl (mvZ (.bool (decide ((at' d.Nodes i).Hi < 0))) rfl ?_))))
          refine Wl.guard rfl rfl (fun hb4 => ?_) (fun hb4 => ?_)
          · replace h := h.2 hb4
            refine wZ rg (o_faP td134 rfl rfl (by rw [sz3]; decide) rfl ?_)
            refine Wl.guardT rfl rfl hb4 ?_
            refine wZ rg (o_loadB1 (atL (k := 5) rfl) sz3 ag3 rfl rfl (v := .int .i64 ((at' d.Nodes i).Hi)) rfl ?_)
            refine Wl.guardT rfl rfl hb4 ?_
            refine mvZ (.int .i64 i) rfl ?_
            refine Wl.guardT rfl rfl hb4 ?_
            refine wZ rg (o_addG rfl rfl h.1 ?_)
            replace h := h.2
            refine Wl.guardT rfl rfl hb4 ?_
            refine wZ rg (o_gtr rfl rfl (wZ rg (o_pickF rfl hb4 (v := .bool (decide ((i + 1) < (at' d.Nodes i).Hi))) rfl (nZ ?_))))
            refine Vc.cond' rfl (fun hb5 => ?_) (fun hb5 => ?_)
            · replace h := h.1 hb5
              refine qZ (rZ (asZ (.int .i64 10) rfl (nZ ?_)))
              refine Vc.ret' ?_
              refine res_tmp (v := .int .i64 10) rfl (res_nil ?_)
              show Gives _ (.int .i64 10) _
              exact gives_out hrg (VW.refl _) (hQ _ h)
            replace h := h.2 hb5
            refine Vc.skip' ?_
            refine qZ (qZ (rZ (wZ rg (o_faP td134 rfl rfl (by rw [sz3]; decide) rfl (wZ rg (o_loadB1 (atL (k := 5) rfl) sz3 ag3 rfl rfl (v := .int .i64 ((at' d.Nodes i).Lo)) rfl (wZ rg (o_faP td134 rfl rfl (by rw [sz3]; decide) rfl (wZ rg (o_loadB1 (atL (k := 5) rfl) sz3 ag3 rfl rfl (v := .int .i64 ((at' d.Nodes i).Hi)) rfl (wZ rg (o_eql rfl rfl (nZ ?_)))))))))))))
            refine Vc.cond' rfl (fun hb6 => ?_) (fun hb6 => ?_)
            · replace h := h.1 hb6
              refine qZ (rZ (asZ (.int .i64 2) rfl (nZ ?_)))
              refine Vc.ret' ?_
              refine res_tmp (v := .int .i64 2) rfl (res_nil ?_)
              show Gives _ (.int .i64 2) _
              exact gives_out hrg (VW.refl _) (hQ _ h)
            replace h := h.2 hb6
            refine Vc.skip' ?_
            refine qZ (qZ (rZ (wZ rg (o_loadBA (atL (k := 2) rfl) sz25 (by decide) ag25 rfl rfl (v := eDiagram d) rfl (wZ rg (o_faP td134 rfl rfl (by rw [sz3]; decide) rfl (wZ rg (o_loadB1 (atL (k := 5) rfl) sz3 ag3 rfl rfl (v := .int .i64 ((at' d.Nodes i).Lo)) rfl (wZ rg (o_faP td134 rfl rfl (by rw [sz3]; decide) rfl ?_))))))))))
            refine wZ rg (o_loadB1 (atL (k := 5) rfl) sz3 ag3 rfl rfl (v := .int .i64 ((at' d.Nodes i).Var)) rfl (wZ rg (o_call (us := [eDiagram d, AV.int .i64 ((at' d.Nodes i).Lo), AV.int .i64 ((at' d.Nodes i).Var)]) rfl (vl' vr (vl' vr (vl' vr (vn)))) (ref15_behind_ctr h fun r h => (wZ rg (o_not rfl (mvZ (.bool (!r)) rfl ?_)))))))
            refine Wl.guard rfl rfl (fun hb7 => ?_) (fun hb7 => ?_)
            · replace h := h.2 hb7
              refine wZ rg (o_loadBA (atL (k := 2) rfl) sz25 (by decide) ag25 rfl rfl (v := eDiagram d) rfl ?_)
              refine Wl.guardT rfl rfl hb7 ?_
              refine wZ rg (o_faP td134 rfl rfl (by rw [sz3]; decide) rfl ?_)
              refine Wl.guardT rfl rfl hb7 ?_
              refine wZ rg (o_loadB1 (atL (k := 5) rfl) sz3 ag3 rfl rfl (v := .int .i64 ((at' d.Nodes i).Hi)) rfl ?_)
              refine Wl.guardT rfl rfl hb7 ?_
              refine wZ rg (o_faP td134 rfl rfl (by rw [sz3]; decide) rfl ?_)
              refine Wl.guardT rfl rfl hb7 ?_
              refine wZ rg (o_loadB1 (atL (k := 5) rfl) sz3 ag3 rfl rfl (v := .int .i64 ((at' d.Nodes i).Var)) rfl ?_)
              refine Wl.guardT rfl rfl hb7 ?_
              refine wZ rg (o_call (us := [eDiagram d, AV.int .i64 ((at' d.Nodes i).Hi), AV.int .i64 ((at' d.Nodes i).Var)]) rfl (vl' vr (vl' vr (vl' vr (vn)))) (ref15_behind_ctr h fun r1 h => ?_))
              refine Wl.guardT rfl rfl hb7 ?_
              refine wZ rg (o_not rfl (wZ rg (o_pickF rfl hb7 (v := .bool (!r1)) rfl (nZ ?_))))
              refine Vc.cond' rfl (fun hb8 => ?_) (fun hb8 => ?_)
              · replace h := h.1 hb8
                refine qZ (rZ (asZ (.int .i64 13) rfl (nZ ?_)))
                refine Vc.ret' ?_
                refine res_tmp (v := .int .i64 13) rfl (res_nil ?_)
                show Gives _ (.int .i64 13) _
                exact gives_out hrg (VW.refl _) (hQ _ h)
              replace h := h.2 hb8
              refine Vc.skip' ?_
              refine qZ (qZ (rZ (asZ (.int .i64 0) rfl (nZ ?_))))
              refine Vc.blk ?_
              obtain ⟨I, μ, h0, hI⟩ := h
              refine Vc.loop' (σ := (Int)) (fun y => I y) (fun y => μ y) (fun y => envOf [(1, .int .i64 i), (2, .ptr rg 2 g1 0 0), (5, .ptr rg 5 g2 0 0), (6, .int .i64 y)]) (fun y => stL S rg [(2, .arr 3 [eDiagram d], g1), (5, .arr 3 [eDNode (at' d.Nodes i)], g2)]) 0 (canon (fc vr (fc vr (fc vr (fc vr (fn))))) (sc rfl (sc rfl (sn)))) h0 (fun k1 h => ?_)
              replace h := hI k1 h
              show Vc _ _ _ _ (envOf [(1, .int .i64 i), (2, .ptr rg 2 g1 0 0), (5, .ptr rg 5 g2 0 0), (6, .int .i64 k1)]) (stL S rg [(2, .arr 3 [eDiagram d], g1), (5, .arr 3 [eDNode (at' d.Nodes i)], g2)])
              refine qZ (qZ (rZ (mvZ (.int .i64 k1) rfl (mvZ (.int .i64 i) rfl (wZ rg (o_lss rfl rfl (nZ ?_)))))))
              refine Vc.cond' rfl (fun hb9 => ?_) (fun hb9 => ?_)
              · replace h := h.1 hb9
                refine Vc.skip' ?_
                refine qZ ?_
                refine Vc.blk ?_
                refine qZ ?_
                have hg := h.1
                replace h := h.2
                refine Vc.drawn' mixed rg (fun _ => jcr2) (by kernel_rfl) ?_
                refine dP rfl rfl (o_faP td25 rfl rfl (by rw [sz23]; decide) rfl (dL (E := ([(rg, 2)], [])) rfl rfl (by simp) (cfn) (o_loadB1 (atL (k := 2) rfl) sz23 ag23 rfl rfl (v := eL eDNode d.Nodes) rfl (dP rfl rfl (o_move (v := .int .i64 k1) rfl (dP rfl rfl (o_idxL td23 sz134 (by decide) (fun _ => rfl) rfl rfl hg (dP rfl rfl (o_loadIA sz134 (by decide) ag134 rfl rfl (v := eDNode (at' d.Nodes k1)) rfl ?_)))))))))
                refine dL (E := ([(rg, 5)], [])) rfl rfl (by simp) (cfa (by simp [apartE]) (cfn)) (o_loadBA (atL (k := 5) rfl) sz134 (by decide) ag134 rfl rfl (v := eDNode (at' d.Nodes i)) rfl (dP rfl rfl (o_eqlS ksh134 rfl rfl rfl rfl (dN ?_))))
                refine Vc.cond' rfl (fun hb10 => ?_) (fun hb10 => ?_)
                · replace h := h.1 hb10
                  refine qZ (rZ (asZ (.int .i64 6) rfl (nZ ?_)))
                  refine Vc.ret' ?_
                  refine res_tmp (v := .int .i64 6) rfl (res_nil ?_)
                  show Gives _ (.int .i64 6) _
                  exact gives_out hrg (VW.refl _) (hQ _ h)
                replace h := h.2 hb10
                refine Vc.skip' ?_
                refine rZ ?_
                refine mvZ (.int .i64 k1) rfl (wZ rg (o_addG rfl rfl h.1 ?_))
                replace h := h.2
                refine asZ (.int .i64 (k1 + 1)) rfl (nZ ?_)
                exact ⟨(k1 + 1), (canon (fc vr (fc vr (fc vr (fc vr (fn))))) (sc rfl (sc rfl (sn)))), h⟩
              replace h := h.2 hb9
              refine Vc.exit' (exB_self ?_)
              refine qZ (rZ (asZ (.int .i64 0) rfl (nZ ?_)))
              refine Vc.ret' ?_
              refine res_tmp (v := .int .i64 0) rfl (res_nil ?_)
              show Gives _ (.int .i64 0) _
              exact gives_out hrg (VW.refl _) (hQ _ h)
            replace h := h.1 hb7
            refine Wl.guardF rfl rfl hb7 rfl ?_
            refine Wl.guardF rfl rfl hb7 rfl ?_
            refine Wl.guardF rfl rfl hb7 rfl ?_
            refine Wl.guardF rfl rfl hb7 rfl ?_
            refine Wl.guardF rfl rfl hb7 rfl ?_
            refine Wl.guardF rfl rfl hb7 rfl ?_
            refine wZ rg (o_pickT rfl hb7 (v := .bool true) rfl (nZ ?_))
            refine Vc.cond' rfl (fun _ => ?_) (fun hb => Bool.noConfusion hb)
            refine qZ (rZ (asZ (.int .i64 13) rfl (nZ ?_)))
            refine Vc.ret' ?_
            refine res_tmp (v := .int .i64 13) rfl (res_nil ?_)
            show Gives _ (.int .i64 13) _
            exact gives_out hrg (VW.refl _) (hQ _ h)
          replace h := h.1 hb4
          refine Wl.guardF rfl rfl hb4 rfl ?_
          refine Wl.guardF rfl rfl hb4 rfl ?_
          refine Wl.guardF rfl rfl hb4 rfl ?_
          refine Wl.guardF rfl rfl hb4 rfl ?_
          refine wZ rg (o_pickT rfl hb4 (v := .bool true) rfl (nZ ?_))
          refine Vc.cond' rfl (fun _ => ?_) (fun hb => Bool.noConfusion hb)
          refine qZ (rZ (asZ (.int .i64 10) rfl (nZ ?_)))
          refine Vc.ret' ?_
          refine res_tmp (v := .int .i64 10) rfl (res_nil ?_)
          show Gives _ (.int .i64 10) _
          exact gives_out hrg (VW.refl _) (hQ _ h)
        replace h := h.1 hb3
        refine Wl.guardF rfl rfl hb3 rfl ?_
        refine Wl.guardF rfl rfl hb3 rfl ?_
        refine wZ rg (o_pickT rfl hb3 (v := .bool true) rfl (mvZ (.bool true) rfl ?_))
        refine Wl.guardF rfl rfl rfl rfl ?_
        refine Wl.guardF rfl rfl rfl rfl ?_
        refine Wl.guardF rfl rfl rfl rfl ?_
        refine Wl.guardF rfl rfl rfl rfl ?_
        refine Wl.guardF rfl rfl rfl rfl ?_
        refine wZ rg (o_pickT rfl rfl (v := .bool true) rfl (nZ ?_))
        refine Vc.cond' rfl (fun _ => ?_) (fun hb => Bool.noConfusion hb)
        refine qZ (rZ (asZ (.int .i64 10) rfl (nZ ?_)))
        refine Vc.ret' ?_
        refine res_tmp (v := .int .i64 10) rfl (res_nil ?_)
        show Gives _ (.int .i64 10) _
        exact gives_out hrg (VW.refl _) (hQ _ h)
      replace h := h.1 hb2
      refine Wl.guardF rfl rfl hb2 rfl ?_
      refine Wl.guardF rfl rfl hb2 rfl ?_
      refine Wl.guardF rfl rfl hb2 rfl ?_
      refine Wl.guardF rfl rfl hb2 rfl ?_
      refine wZ rg (o_pickT rfl hb2 (v := .bool true) rfl (mvZ (.bool true) rfl ?_))
      refine Wl.guardF rfl rfl rfl rfl ?_
      refine Wl.guardF rfl rfl rfl rfl ?_
      refine Wl.guardF rfl rfl rfl rfl ?_
      refine wZ rg (o_pickT rfl rfl (v := .bool true) rfl (mvZ (.bool true) rfl ?_))
      refine Wl.guardF rfl rfl rfl rfl ?_
      refine Wl.guardF rfl rfl rfl rfl ?_
      refine Wl.guardF rfl rfl rfl rfl ?_
      refine Wl.guardF rfl rfl rfl rfl ?_
      refine Wl.guardF rfl rfl rfl rfl ?_
      refine wZ rg (o_pickT rfl rfl (v := .bool true) rfl (nZ ?_))
      refine Vc.cond' rfl (fun _ => ?_) (fun hb => Bool.noConfusion hb)
      refine qZ (rZ (asZ (.int .i64 10) rfl (nZ ?_)))
      refine Vc.ret' ?_
      refine res_tmp (v := .int .i64 10) rfl (res_nil ?_)
      show Gives _ (.int .i64 10) _
      exact gives_out hrg (VW.refl _) (hQ _ h)
    replace h := h.1 hb1
    refine Wl.guardF rfl rfl hb1 rfl ?_
    refine Wl.guardF rfl rfl hb1 rfl ?_
    refine wZ rg (o_pickT rfl hb1 (v := .bool true) rfl (mvZ (.bool true) rfl ?_))
    refine Wl.guardF rfl rfl rfl rfl ?_
    refine Wl.guardF rfl rfl rfl rfl ?_
    refine Wl.guardF rfl rfl rfl rfl ?_
    refine Wl.guardF rfl rfl rfl rfl ?_
    refine Wl.guardF rfl rfl rfl rfl ?_
    refine wZ rg (o_pickT rfl rfl (v := .bool true) rfl (mvZ (.bool true) rfl ?_))
    refine Wl.guardF rfl rfl rfl rfl ?_
    refine Wl.guardF rfl rfl rfl rfl ?_
    refine Wl.guardF rfl rfl rfl rfl ?_
    refine wZ rg (o_pickT rfl rfl (v := .bool true) rfl (mvZ (.bool true) rfl ?_))
    refine Wl.guardF rfl rfl rfl rfl ?_
    refine Wl.guardF rfl rfl rfl rfl ?_
    refine Wl.guardF rfl rfl rfl rfl ?_
    refine Wl.guardF rfl rfl rfl rfl ?_
    refine Wl.guardF rfl rfl rfl rfl ?_
    refine wZ rg (o_pickT rfl rfl (v := .bool true) rfl (nZ ?_))
    refine Vc.cond' rfl (fun _ => ?_) (fun hb => Bool.noConfusion hb)
    refine qZ (rZ (asZ (.int .i64 10) rfl (nZ ?_)))
    refine Vc.ret' ?_
    refine res_tmp (v := .int .i64 10) rfl (res_nil ?_)
    show Gives _ (.int .i64 10) _
    exact gives_out hrg (VW.refl _) (hQ _ h)
  replace h := h.1 hb
  refine Wl.guardF rfl rfl hb rfl ?_
  refine Wl.guardF rfl rfl hb rfl ?_
  refine Wl.guardF rfl rfl hb rfl ?_
  refine Wl.guardF rfl rfl hb rfl ?_
  refine Wl.guardF rfl rfl hb rfl ?_
  refine wZ rg (o_pickT rfl hb (v := .bool true) rfl (mvZ (.bool true) rfl ?_))
  refine Wl.guardF rfl rfl rfl rfl ?_
  refine Wl.guardF rfl rfl rfl rfl ?_
  refine Wl.guardF rfl rfl rfl rfl ?_
  refine wZ rg (o_pickT rfl rfl (v := .bool true) rfl (mvZ (.bool true) rfl ?_))
  refine Wl.guardF rfl rfl rfl rfl ?_
  refine Wl.guardF rfl rfl rfl rfl ?_
  refine Wl.guardF rfl rfl rfl rfl ?_
  refine Wl.guardF rfl rfl rfl rfl ?_
  refine Wl.guardF rfl rfl rfl rfl ?_
  refine wZ rg (o_pickT rfl rfl (v := .bool true) rfl (mvZ (.bool true) rfl ?_))
  refine Wl.guardF rfl rfl rfl rfl ?_
  refine Wl.guardF rfl rfl rfl rfl ?_
  refine Wl.guardF rfl rfl rfl rfl ?_
  refine wZ rg (o_pickT rfl rfl (v := .bool true) rfl (mvZ (.bool true) rfl ?_))
  refine Wl.guardF rfl rfl rfl rfl ?_
  refine Wl.guardF rfl rfl rfl rfl ?_
  refine Wl.guardF rfl rfl rfl rfl ?_
  refine Wl.guardF rfl rfl rfl rfl ?_
  refine Wl.guardF rfl rfl rfl rfl ?_
  refine wZ rg (o_pickT rfl rfl (v := .bool true) rfl (nZ ?_))
  refine Vc.cond' rfl (fun _ => ?_) (fun hb => Bool.noConfusion hb)
  refine qZ (rZ (asZ (.int .i64 10) rfl (nZ ?_)))
  refine Vc.ret' ?_
  refine res_tmp (v := .int .i64 10) rfl (res_nil ?_)
  show Gives _ (.int .i64 10) _
  exact gives_out hrg (VW.refl _) (hQ _ h)
theorem ref15_number__e_ctr {fu : Nat} : ∀ {d : GDiagram} {ref : Int} {before : List Int} {q0 k0 g0 : Nat} (_hdk : DK [(q0, k0)]) {Q : List Int → Prop} {S : St} {R : AV → St → Prop} (_h : ref15_number__e_W fu d ref before Q) (_hQ : ∀ r1, ∀ h0, Q r1 → R (.sl 1 q0 k0 h0 0 r1.length) (stX S [(q0, k0, .arr 1 (List.map (AV.int .i64) r1), h0)])),
    Ctr Try.prog 128 [eDiagram d, AV.int .i64 ref, .sl 1 q0 k0 g0 0 before.length] (stX S [(q0, k0, .arr 1 (List.map (AV.int .i64) before), g0)]) R := by
  induction fu with
  | zero =>
    intro d ref before q0 k0 g0 hdk Q S R h hQ
    exact False.elim h
  | succ fu ih =>
  intro d ref before q0 k0 g0 hdk Q S R h hQ
  rw [ref15_number__e_W] at h
  refine enterT Try.func128 rfl Try.ntmps128 Try.results128 (by kernel_rfl) (fun rg hrg => ?_)
  have hdx : DX [(q0, k0, .arr 1 (List.map (AV.int .i64) before), g0)] := hdk
  have hfr := fun X' e => fresh_set (S := S) (rg := rg) (X := [(q0, k0, .arr 1 (List.map (AV.int .i64) before), g0)]) (X' := X') e hrg
  have hne0 := fresh_ne hdx hrg 0 rfl
  refine qZ (rZ (wZ rg (o_box (v := eDiagram d) rfl rfl (kk := 3) rfl (by decide) (fun g1 => (asZ .nil rfl (nZ (qZ (qZ (rZ (mvZ (.int .i64 ref) rfl (wZ rg (o_lss rfl rfl (mvZ (.bool (decide (ref < 2))) rfl ?_)))))))))))))
  refine Wl.guard rfl rfl (fun hb => ?_) (fun hb => ?_)
  · replace h := h.2 hb
    refine mvZ (.sl 1 q0 k0 g0 0 before.length) rfl ?_
    refine Wl.guardT rfl rfl hb ?_
    refine mvZ (.int .i64 ref) rfl ?_
    refine Wl.guardT rfl rfl hb ?_
    refine wZ rg (o_call (us := [.sl 1 q0 k0 g0 0 before.length, AV.int .i64 ref]) rfl (vl' vr (vl' vr (vn))) (ctrX (stX_same1 (atX hne0 hdx 0 rfl)) (ref14_Place__r0_ctr h fun before1 r h => ?_)))
    refine Wl.eqS (setX hne0 hdx 0 rfl rfl) ?_
    have hl := h.1
    replace h := h.2
    refine Wl.guardT rfl rfl hb ?_
    refine wZ rg (o_geq rfl rfl (wZ rg (o_pickF rfl hb (v := .bool (decide (0 ≤ r))) rfl (nZ ?_))))
    refine Vc.cond' rfl (fun hb1 => ?_) (fun hb1 => ?_)
    · replace h := h.1 hb1
      refine qZ (rZ (mvZ (.sl 1 q0 k0 g0 0 before.length) rfl (asZ (.sl 1 q0 k0 g0 0 before.length) rfl (nZ ?_))))
      refine Vc.ret' ?_
      refine res_tmp (v := .sl 1 q0 k0 g0 0 before.length) rfl (res_nil ?_)
      show Gives _ (.sl 1 q0 k0 g0 0 before.length) _
      exact gives_out (hfr _ rfl) (VW.slen (by first | rfl | omega | (simp only [go_sem] <;> omega))) (hQ _ _ h)
    replace h := h.2 hb1
    refine Vc.skip' ?_
    refine qZ (rZ (wZ rg (o_faP td25 rfl rfl (by rw [sz23]; decide) rfl (wZ rg (o_loadB1 (atL (k := 3) rfl) sz23 ag23 rfl rfl (v := eL eDNode d.Nodes) rfl (mvZ (.int .i64 ref) rfl (wZ rg (o_subG rfl rfl h.1 ?_))))))))
    replace h := h.2
    refine wZ rg (o_idxL td23 sz134 (by decide) (fun _ => rfl) rfl rfl h.1 ?_)
    replace h := h.2
    refine wZ rg (o_loadIA sz134 (by decide) ag134 rfl rfl (v := eDNode (at' d.Nodes (ref - 2))) rfl (wZ rg (o_alloc zav134 ok134 (kk := 3) rfl (fun g2 => (wZ rg (o_storeB (atL (k := 7) rfl) sz134 (by decide) rfl (w := eDNode (at' d.Nodes (ref - 2))) rfl rfl rfl (v := eDNode (at' d.Nodes (ref - 2))) rfl setL (nZ (qZ (rZ ?_)))))))))
    refine wZ rg (o_loadBA (atL (k := 3) rfl) sz25 (by decide) ag25 rfl rfl (v := eDiagram d) rfl (wZ rg (o_faP td134 rfl rfl (by rw [sz3]; decide) rfl (wZ rg (o_loadB1 (atL (k := 7) rfl) sz3 ag3 rfl rfl (v := .int .i64 ((at' d.Nodes (ref - 2)).Lo)) rfl (mvZ (.sl 1 q0 k0 g0 0 before.length) rfl ?_))))))
    refine wZ rg (o_call (us := [eDiagram d, AV.int .i64 ((at' d.Nodes (ref - 2)).Lo), .sl 1 q0 k0 g0 0 before1.length]) rfl (vl' vr (vl' vr (vl' (VW.slen (by first | rfl | omega | (simp only [go_sem] <;> omega))) (vn)))) (ctrX (sx_c (atX hne0 hdx 0 rfl) (sx_n)) (ih (dk_c (ni_n) (dk_n)) h fun before2 g3 h => ?_)))
    refine Wl.eqS (sy_c (sx_n) (setX hne0 hdx 0 rfl rfl)) ?_
    refine asZ (.sl 1 q0 k0 g3 0 before2.length) rfl (nZ (qZ (rZ (wZ rg (o_loadBA (atL (k := 3) rfl) sz25 (by decide) ag25 rfl rfl (v := eDiagram d) rfl (wZ rg (o_faP td134 rfl rfl (by rw [sz3]; decide) rfl (wZ rg (o_loadB1 (atL (k := 7) rfl) sz3 ag3 rfl rfl (v := .int .i64 ((at' d.Nodes (ref - 2)).Hi)) rfl (mvZ (.sl 1 q0 k0 g3 0 before2.length) rfl ?_))))))))))
    refine wZ rg (o_call (us := [eDiagram d, AV.int .i64 ((at' d.Nodes (ref - 2)).Hi), .sl 1 q0 k0 g3 0 before2.length]) rfl (vl' vr (vl' vr (vl' vr (vn)))) (ctrX (sx_c (atX hne0 hdx 0 rfl) (sx_n)) (ih (dk_c (ni_n) (dk_n)) h fun before3 g4 h => ?_)))
    refine Wl.eqS (sy_c (sx_n) (setX hne0 hdx 0 rfl rfl)) ?_
    refine asZ (.sl 1 q0 k0 g4 0 before3.length) rfl (nZ (qZ (rZ (mvZ (.sl 1 q0 k0 g4 0 before3.length) rfl (mvZ (.int .i64 ref) rfl (wZ rg (o_bslice td22 ok3 zav3 (es := [.int .i64 ref]) rfl (kk := 1) rfl rfl rfl rfl rfl rfl (fun g5 => ?_))))))))
    refine wZ rg (o_appR td22 bts3 ok3 zav3 (es := before3) (xs := [ref]) (enc := AV.int .i64) (atX hne0 hdx 0 rfl) (by first | rfl | omega | (simp only [go_sem] <;> omega)) (view_rowE (atL (k := 35) rfl) (by first | rfl | omega | (simp only [go_sem] <;> omega))) (kk := 1) rfl rfl (fun _ => rfl) (fun _ => rfl) h.1 rfl (fun _ => (setX hne0 hdx 0 rfl rfl)) (fun g6 => ?_))
    replace h := h.2
    refine asZ (.sl 1 q0 k0 g6 0 ((before3 ++ [ref]).length)) rfl (nZ ?_)
    refine Vc.ret' ?_
    refine res_tmp (v := .sl 1 q0 k0 g6 0 ((before3 ++ [ref]).length)) rfl (res_nil ?_)
    show Gives _ (.sl 1 q0 k0 g6 0 ((before3 ++ [ref]).length)) _
    exact gives_out (hfr _ rfl) (VW.refl _) (hQ _ _ h)
  replace h := h.1 hb
  refine Wl.guardF rfl rfl hb rfl ?_
  refine Wl.guardF rfl rfl hb rfl ?_
  refine Wl.guardF rfl rfl hb rfl ?_
  refine wZ rg (o_pickT rfl hb (v := .bool true) rfl (nZ ?_))
  refine Vc.cond' rfl (fun _ => ?_) (fun hb => Bool.noConfusion hb)
  refine qZ (rZ (mvZ (.sl 1 q0 k0 g0 0 before.length) rfl (asZ (.sl 1 q0 k0 g0 0 before.length) rfl (nZ ?_))))
  refine Vc.ret' ?_
  refine res_tmp (v := .sl 1 q0 k0 g0 0 before.length) rfl (res_nil ?_)
  show Gives _ (.sl 1 q0 k0 g0 0 before.length) _
  exact gives_out (hfr _ rfl) (VW.refl _) (hQ _ _ h)
theorem ref15_Check_ctr {d : GDiagram} {Q : Int → Prop} {S : St} {R : AV → St → Prop} (h : ref15_Check_W d Q) (hQ : ∀ r1, Q r1 → R (AV.int .i64 r1) S) :
    Ctr Try.prog 38 [eDiagram d] S R := by
  unfold ref15_Check_W at h
  refine enterT Try.func38 rfl Try.ntmps38 Try.results38 (by kernel_rfl) (fun rg hrg => ?_)
  refine qZ (rZ (wZ rg (o_box (v := eDiagram d) rfl rfl (kk := 3) rfl (by decide) (fun g1 => (asZ (.int .i64 0) rfl (nZ (qZ (qZ (rZ (wZ rg (o_faP td25 rfl rfl (by rw [sz22]; decide) rfl (wZ rg (o_loadB1 (atL (k := 1) rfl) sz22 ag22 rfl rfl (v := eL (AV.int .i64) d.Order) rfl (wZ rg (o_faP td25 rfl rfl (by rw [sz22]; decide) rfl ?_)))))))))))))))
  refine wZ rg (o_loadB1 (atL (k := 1) rfl) sz22 ag22 rfl rfl (v := eL (AV.int .i64) d.Order) rfl (wZ rg (o_len td22 rfl (wZ rg (o_call (us := [eL (AV.int .i64) d.Order, AV.int .i64 (d.Order.length : Int)]) rfl (vl' vr (vl' vr (vn))) (ref14_Check_ctr h fun e h => (asZ (.int .i64 e) rfl (nZ (qZ (rZ (mvZ (.int .i64 e) rfl (wZ rg (o_neq rfl rfl (nZ ?_))))))))))))))
  refine Vc.cond' rfl (fun hb => ?_) (fun hb => ?_)
  · replace h := h.1 hb
    refine qZ (rZ (mvZ (.int .i64 e) rfl (asZ (.int .i64 e) rfl (nZ ?_))))
    refine Vc.ret' ?_
    refine res_tmp (v := .int .i64 e) rfl (res_nil ?_)
    show Gives _ (.int .i64 e) _
    exact gives_out hrg (VW.refl _) (hQ _ h)
  replace h := h.2 hb
  refine Vc.skip' ?_
  refine qZ (qZ (rZ (wZ rg (o_faP td25 rfl rfl (by rw [sz23]; decide) rfl (wZ rg (o_loadB1 (atL (k := 1) rfl) sz23 ag23 rfl rfl (v := eL eDNode d.Nodes) rfl (wZ rg (o_len td23 rfl (wZ rg (o_gtr rfl rfl (nZ ?_)))))))))))
  refine Vc.cond' rfl (fun hb1 => ?_) (fun hb1 => ?_)
  · replace h := h.1 hb1
    refine qZ (rZ (asZ (.int .i64 4) rfl (nZ ?_)))
    refine Vc.ret' ?_
    refine res_tmp (v := .int .i64 4) rfl (res_nil ?_)
    show Gives _ (.int .i64 4) _
    exact gives_out hrg (VW.refl _) (hQ _ h)
  replace h := h.2 hb1
  refine Vc.skip' ?_
  refine qZ (qZ (rZ (asZ (.int .i64 0) rfl (nZ ?_))))
  refine Vc.blk ?_
  obtain ⟨I, μ, h0, hI⟩ := h
  refine Vc.loop' (σ := (Int)) (fun y => I y) (fun y => μ y) (fun y => envOf [(1, .ptr rg 1 g1 0 0), (4, .int .i64 y)]) (fun y => stL S rg [(1, .arr 3 [eDiagram d], g1)]) 0 (canon (fc vr (fc vr (fn))) (sc rfl (sn))) h0 (fun i h => ?_)
  replace h := hI i h
  show Vc _ _ _ _ (envOf [(1, .ptr rg 1 g1 0 0), (4, .int .i64 i)]) (stL S rg [(1, .arr 3 [eDiagram d], g1)])
  refine qZ (qZ (rZ (mvZ (.int .i64 i) rfl (wZ rg (o_faP td25 rfl rfl (by rw [sz23]; decide) rfl (wZ rg (o_loadB1 (atL (k := 1) rfl) sz23 ag23 rfl rfl (v := eL eDNode d.Nodes) rfl (wZ rg (o_len td23 rfl (wZ rg (o_lss rfl rfl (nZ ?_))))))))))))
  refine Vc.cond' rfl (fun hb2 => ?_) (fun hb2 => ?_)
  · replace h := h.1 hb2
    refine Vc.skip' ?_
    refine qZ ?_
    refine Vc.blk ?_
    refine qZ (rZ (wZ rg (o_loadBA (atL (k := 1) rfl) sz25 (by decide) ag25 rfl rfl (v := eDiagram d) rfl (mvZ (.int .i64 i) rfl (wZ rg (o_call (us := [eDiagram d, AV.int .i64 i]) rfl (vl' vr (vl' vr (vn))) (ref15_node_ctr h fun e1 h => (asZ (.int .i64 e1) rfl (nZ (qZ (rZ (mvZ (.int .i64 e1) rfl (wZ rg (o_neq rfl rfl (nZ ?_)))))))))))))))
    refine Vc.cond' rfl (fun hb3 => ?_) (fun hb3 => ?_)
    · replace h := h.1 hb3
      refine qZ (rZ (mvZ (.int .i64 e1) rfl (asZ (.int .i64 e1) rfl (nZ ?_))))
      refine Vc.ret' ?_
      refine res_tmp (v := .int .i64 e1) rfl (res_nil ?_)
      show Gives _ (.int .i64 e1) _
      exact gives_out hrg (VW.refl _) (hQ _ h)
    replace h := h.2 hb3
    refine Vc.skip' ?_
    refine rZ ?_
    refine mvZ (.int .i64 i) rfl (wZ rg (o_addG rfl rfl h.1 ?_))
    replace h := h.2
    refine asZ (.int .i64 (i + 1)) rfl (nZ ?_)
    exact ⟨(i + 1), (canon (fc vr (fc vr (fn))) (sc rfl (sn))), h⟩
  replace h := h.2 hb2
  refine Vc.exit' (exB_self ?_)
  refine qZ (qZ (rZ (wZ rg (o_faP td25 rfl rfl (by rw [sz3]; decide) rfl (wZ rg (o_loadB1 (atL (k := 1) rfl) sz3 ag3 rfl rfl (v := .int .i64 d.Root) rfl (wZ rg (o_lss rfl rfl (mvZ (.bool (decide (d.Root < 0))) rfl ?_)))))))))
  refine Wl.guard rfl rfl (fun hb4 => ?_) (fun hb4 => ?_)
  · replace h := h.2 hb4
    refine wZ rg (o_faP td25 rfl rfl (by rw [sz3]; decide) rfl ?_)
    refine Wl.guardT rfl rfl hb4 ?_
    refine wZ rg (o_loadB1 (atL (k := 1) rfl) sz3 ag3 rfl rfl (v := .int .i64 d.Root) rfl ?_)
    refine Wl.guardT rfl rfl hb4 ?_
    refine wZ rg (o_faP td25 rfl rfl (by rw [sz23]; decide) rfl ?_)
    refine Wl.guardT rfl rfl hb4 ?_
    refine wZ rg (o_loadB1 (atL (k := 1) rfl) sz23 ag23 rfl rfl (v := eL eDNode d.Nodes) rfl ?_)
    refine Wl.guardT rfl rfl hb4 ?_
    refine wZ rg (o_len td23 rfl ?_)
    refine Wl.guardT rfl rfl hb4 ?_
    refine wZ rg (o_addG rfl rfl h.1 ?_)
    replace h := h.2
    refine Wl.guardT rfl rfl hb4 ?_
    refine wZ rg (o_gtr rfl rfl (wZ rg (o_pickF rfl hb4 (v := .bool (decide ((1 + (d.Nodes.length : Int)) < d.Root))) rfl (nZ ?_))))
    refine Vc.cond' rfl (fun hb5 => ?_) (fun hb5 => ?_)
    · replace h := h.1 hb5
      refine qZ (rZ (asZ (.int .i64 10) rfl (nZ ?_)))
      refine Vc.ret' ?_
      refine res_tmp (v := .int .i64 10) rfl (res_nil ?_)
      show Gives _ (.int .i64 10) _
      exact gives_out hrg (VW.refl _) (hQ _ h)
    replace h := h.2 hb5
    refine Vc.skip' ?_
    refine qZ (rZ (wZ rg (o_loadBA (atL (k := 1) rfl) sz25 (by decide) ag25 rfl rfl (v := eDiagram d) rfl (wZ rg (o_faP td25 rfl rfl (by rw [sz3]; decide) rfl (wZ rg (o_loadB1 (atL (k := 1) rfl) sz3 ag3 rfl rfl (v := .int .i64 d.Root) rfl ?_)))))))
    obtain ⟨_, h⟩ := h
    refine wZ rg (o_call (us := [eDiagram d, AV.int .i64 d.Root, .nil]) rfl (vl' vr (vl' vr (vl' vr (vn)))) (Ctr.mat 2 rg 15000000 1 rfl (by decide) (fun g2 => ctrX ((sx_c (atL (k := 15000000) rfl) (sx_n)).trans setL.symm) (ref15_number__e_ctr (dk_c (ni_n) (dk_n)) h fun u g3 h => ?_))))
    refine Wl.eqS (sy_c (sx_n) setL) ?_
    refine asZ (.sl 1 rg 15000000 g3 0 u.length) rfl (nZ (qZ (qZ (rZ (mvZ (.sl 1 rg 15000000 g3 0 u.length) rfl (wZ rg (o_lenR td22 rfl (wZ rg (o_faP td25 rfl rfl (by rw [sz23]; decide) rfl (wZ rg (o_loadB1 (atL (k := 1) rfl) sz23 ag23 rfl rfl (v := eL eDNode d.Nodes) rfl (wZ rg (o_len td23 rfl (wZ rg (o_neq rfl rfl (nZ ?_))))))))))))))))
    refine Vc.cond' rfl (fun hb6 => ?_) (fun hb6 => ?_)
    · replace h := h.1 hb6
      refine qZ (rZ (asZ (.int .i64 2) rfl (nZ ?_)))
      refine Vc.ret' ?_
      refine res_tmp (v := .int .i64 2) rfl (res_nil ?_)
      show Gives _ (.int .i64 2) _
      exact gives_out hrg (VW.refl _) (hQ _ h)
    replace h := h.2 hb6
    refine Vc.skip' ?_
    refine qZ (qZ (rZ (asZ (.int .i64 0) rfl (nZ ?_))))
    refine Vc.blk ?_
    obtain ⟨I, μ, h0, hI⟩ := h
    refine Vc.loop' (σ := (Int)) (fun y => I y) (fun y => μ y) (fun y => envOf [(6, .sl 1 rg 15000000 g3 0 u.length), (7, .int .i64 y)]) (fun y => stL S rg [(15000000, .arr 1 (List.map (AV.int .i64) u), g3)]) 0 (canon (fc vr (fc vr (fn))) (sc rfl (sn))) h0 (fun i1 h => ?_)
    replace h := hI i1 h
    show Vc _ _ _ _ (envOf [(6, .sl 1 rg 15000000 g3 0 u.length), (7, .int .i64 i1)]) (stL S rg [(15000000, .arr 1 (List.map (AV.int .i64) u), g3)])
    refine qZ (qZ (rZ (mvZ (.int .i64 i1) rfl (mvZ (.sl 1 rg 15000000 g3 0 u.length) rfl (wZ rg (o_lenR td22 rfl (wZ rg (o_lss rfl rfl (nZ ?_)))))))))
    refine Vc.cond' rfl (fun hb7 => ?_) (fun hb7 => ?_)
    · replace h := h.1 hb7
      refine Vc.skip' ?_
      refine qZ ?_
      refine Vc.blk ?_
      refine qZ (rZ (mvZ (.sl 1 rg 15000000 g3 0 u.length) rfl (mvZ (.int .i64 i1) rfl (wZ rg (o_idxR0 td22 sz3 (by decide) rfl rfl h.1 ?_)))))
      have hi := h.1
      replace h := h.2
      refine wZ rg (o_loadR1 (atL (k := 15000000) rfl) sz3 ag3 rfl (lt_of hi (by first | rfl | omega | (simp only [go_sem] <;> omega))) rfl (v := .int .i64 (at' u i1)) rfl (mvZ (.int .i64 i1) rfl (wZ rg (o_addG rfl rfl h.1 ?_))))
      replace h := h.2
      refine wZ rg (o_neq rfl rfl (nZ ?_))
      refine Vc.cond' rfl (fun hb8 => ?_) (fun hb8 => ?_)
      · replace h := h.1 hb8
        refine qZ (rZ (asZ (.int .i64 2) rfl (nZ ?_)))
        refine Vc.ret' ?_
        refine res_tmp (v := .int .i64 2) rfl (res_nil ?_)
        show Gives _ (.int .i64 2) _
        exact gives_out hrg (VW.refl _) (hQ _ h)
      replace h := h.2 hb8
      refine Vc.skip' ?_
      refine rZ ?_
      refine mvZ (.int .i64 i1) rfl (wZ rg (o_addG rfl rfl h.1 ?_))
      replace h := h.2
      refine asZ (.int .i64 (i1 + 1)) rfl (nZ ?_)
      exact ⟨(i1 + 1), (canon (fc vr (fc vr (fn))) (sc rfl (sn))), h⟩
    replace h := h.2 hb7
    refine Vc.exit' (exB_self ?_)
    refine qZ (rZ (asZ (.int .i64 0) rfl (nZ ?_)))
    refine Vc.ret' ?_
    refine res_tmp (v := .int .i64 0) rfl (res_nil ?_)
    show Gives _ (.int .i64 0) _
    exact gives_out hrg (VW.refl _) (hQ _ h)
  replace h := h.1 hb4
  refine Wl.guardF rfl rfl hb4 rfl ?_
  refine Wl.guardF rfl rfl hb4 rfl ?_
  refine Wl.guardF rfl rfl hb4 rfl ?_
  refine Wl.guardF rfl rfl hb4 rfl ?_
  refine Wl.guardF rfl rfl hb4 rfl ?_
  refine Wl.guardF rfl rfl hb4 rfl ?_
  refine wZ rg (o_pickT rfl hb4 (v := .bool true) rfl (nZ ?_))
  refine Vc.cond' rfl (fun _ => ?_) (fun hb => Bool.noConfusion hb)
  refine qZ (rZ (asZ (.int .i64 10) rfl (nZ ?_)))
  refine Vc.ret' ?_
  refine res_tmp (v := .int .i64 10) rfl (res_nil ?_)
  show Gives _ (.int .i64 10) _
  exact gives_out hrg (VW.refl _) (hQ _ h)
end Go.Proofs.Ytllegjdggcmgaaa
/- Walks of functions. Conditions: none. -/
namespace Go.Proofs.Ytllegjdggcmgaaa
open Go.Gg
set_option maxRecDepth 100000
theorem ref16_Check_ctr {l : List GDiagram} {Q : Int → Prop} {S : St} {R : AV → St → Prop} (h : ref16_Check_W l Q) (hQ : ∀ r1, Q r1 → R (AV.int .i64 r1) S) :
    Ctr Try.prog 50 [eL eDiagram l] S R := by
  unfold ref16_Check_W at h
  refine enterT Try.func50 rfl Try.ntmps50 Try.results50 (by kernel_rfl) (fun rg hrg => ?_)
  refine qZ (rZ (asZ (.int .i64 0) rfl (nZ (qZ (qZ (rZ (asZ (.int .i64 0) rfl (nZ ?_))))))))
  refine Vc.blk ?_
  obtain ⟨I, μ, h0, hI⟩ := h
  refine Vc.loop' (σ := (Int)) (fun y => I y) (fun y => μ y) (fun y => envOf [(0, eL eDiagram l), (3, .int .i64 y)]) (fun y => stL S rg []) 0 (canon (fc vr (fc vr (fn))) (sn)) h0 (fun i h => ?_)
  replace h := hI i h
  show Vc _ _ _ _ (envOf [(0, eL eDiagram l), (3, .int .i64 i)]) (stL S rg [])
  refine qZ (qZ (rZ (mvZ (.int .i64 i) rfl (mvZ (eL eDiagram l) rfl (wZ rg (o_len td142 rfl (wZ rg (o_lss rfl rfl (nZ ?_)))))))))
  refine Vc.cond' rfl (fun hb => ?_) (fun hb => ?_)
  · replace h := h.1 hb
    refine Vc.skip' ?_
    refine qZ ?_
    refine Vc.blk ?_
    refine qZ (rZ (mvZ (eL eDiagram l) rfl (mvZ (.int .i64 i) rfl (wZ rg (o_idxL td142 sz25 (by decide) (fun _ => rfl) rfl rfl h.1 ?_)))))
    replace h := h.2
    refine wZ rg (o_loadIA sz25 (by decide) ag25 rfl rfl (v := eDiagram (at' l i)) rfl (wZ rg (o_call (us := [eDiagram (at' l i)]) rfl (vl' vr (vn)) (ref15_Check_ctr h fun e h => (asZ (.int .i64 e) rfl (nZ (qZ (rZ (mvZ (.int .i64 e) rfl (wZ rg (o_neq rfl rfl (nZ ?_))))))))))))
    refine Vc.cond' rfl (fun hb1 => ?_) (fun hb1 => ?_)
    · replace h := h.1 hb1
      refine qZ (rZ (mvZ (.int .i64 e) rfl (asZ (.int .i64 e) rfl (nZ ?_))))
      refine Vc.ret' ?_
      refine res_tmp (v := .int .i64 e) rfl (res_nil ?_)
      show Gives _ (.int .i64 e) _
      exact gives_out hrg (VW.refl _) (hQ _ h)
    replace h := h.2 hb1
    refine Vc.skip' ?_
    refine rZ ?_
    refine mvZ (.int .i64 i) rfl (wZ rg (o_addG rfl rfl h.1 ?_))
    replace h := h.2
    refine asZ (.int .i64 (i + 1)) rfl (nZ ?_)
    exact ⟨(i + 1), (canon (fc vr (fc vr (fn))) (sn)), h⟩
  replace h := h.2 hb
  refine Vc.exit' (exB_self ?_)
  refine qZ (qZ (rZ (asZ (.int .i64 1) rfl (nZ ?_))))
  refine Vc.blk ?_
  obtain ⟨I, μ, h0, hI⟩ := h
  refine Vc.loop' (σ := (Int)) (fun y => I y) (fun y => μ y) (fun y => envOf [(0, eL eDiagram l), (5, .int .i64 y)]) (fun y => stL S rg []) 1 (canon (fc vr (fc vr (fn))) (sn)) h0 (fun i1 h => ?_)
  replace h := hI i1 h
  show Vc _ _ _ _ (envOf [(0, eL eDiagram l), (5, .int .i64 i1)]) (stL S rg [])
  refine qZ (qZ (rZ (mvZ (.int .i64 i1) rfl (mvZ (eL eDiagram l) rfl (wZ rg (o_len td142 rfl (wZ rg (o_lss rfl rfl (nZ ?_)))))))))
  refine Vc.cond' rfl (fun hb2 => ?_) (fun hb2 => ?_)
  · replace h := h.1 hb2
    refine Vc.skip' ?_
    refine qZ ?_
    refine Vc.blk ?_
    refine qZ ?_
    have hg := h.1
    replace h := h.2
    have hg1 := h.1
    replace h := h.2
    obtain ⟨r, hc, h⟩ := h
    refine Vc.drawn' mixed rg (usOf [(9, pc (.bool r))]) (by kernel_rfl) ?_
    refine dP rfl rfl (o_move (v := eL eDiagram l) rfl (dP rfl rfl (o_move (v := .int .i64 i1) rfl (dP rfl rfl (o_idxL td142 sz25 (by decide) (fun _ => rfl) rfl rfl hg (dP rfl rfl (o_fa td25 rfl rfl (by rw [sz22]; decide) rfl rfl (dP rfl rfl (o_loadI1 sz22 ag22 rfl rfl (v := eL (AV.int .i64) ((at' l i1).Order)) rfl (dP rfl rfl (o_move (v := eL eDiagram l) rfl ?_)))))))))))
    refine dP rfl rfl (o_idxL td142 sz25 (by decide) (fun _ => rfl) rfl rfl hg1 (dP rfl rfl (o_fa td25 rfl rfl (by rw [sz22]; decide) rfl rfl (dP rfl rfl (o_loadI1 sz22 ag22 rfl rfl (v := eL (AV.int .i64) ((at' l 0).Order)) rfl ?_)))))
    refine dC (vs := [eL (AV.int .i64) ((at' l i1).Order), eL (AV.int .i64) ((at' l 0).Order)]) rfl (vl' vr (vl' vr (vn))) (fun _ => base_Ints_ctr hc (fun _ hr => ⟨by rw [hr], rfl⟩)) rfl ?_
    refine dP rfl rfl (o_not rfl (dN ?_))
    refine Vc.cond' rfl (fun hb3 => ?_) (fun hb3 => ?_)
    · replace h := h.1 hb3
      refine qZ (rZ (asZ (.int .i64 13) rfl (nZ ?_)))
      refine Vc.ret' ?_
      refine res_tmp (v := .int .i64 13) rfl (res_nil ?_)
      show Gives _ (.int .i64 13) _
      exact gives_out hrg (VW.refl _) (hQ _ h)
    replace h := h.2 hb3
    refine Vc.skip' ?_
    refine rZ ?_
    refine mvZ (.int .i64 i1) rfl (wZ rg (o_addG rfl rfl h.1 ?_))
    replace h := h.2
    refine asZ (.int .i64 (i1 + 1)) rfl (nZ ?_)
    exact ⟨(i1 + 1), (canon (fc vr (fc vr (fn))) (sn)), h⟩
  replace h := h.2 hb2
  refine Vc.exit' (exB_self ?_)
  refine qZ (rZ (asZ (.int .i64 0) rfl (nZ ?_)))
  refine Vc.ret' ?_
  refine res_tmp (v := .int .i64 0) rfl (res_nil ?_)
  show Gives _ (.int .i64 0) _
  exact gives_out hrg (VW.refl _) (hQ _ h)
end Go.Proofs.Ytllegjdggcmgaaa
/- Walks of functions. Conditions: none. -/
namespace Go.Proofs.Ytllegjdggcmgaaa
open Go.Gg
set_option maxRecDepth 100000
theorem law16_event_ctr {i : Int} {Q : GDiagram → Prop} {S : St} {R : AV → St → Prop} (h : law16_event_W i Q) (hQ : ∀ r1, Q r1 → R (eDiagram r1) S) :
    Ctr Try.prog 122 [AV.int .i64 i] S R := by
  unfold law16_event_W at h
  refine enterT Try.func122 rfl Try.ntmps122 Try.results122 (by kernel_rfl) (fun rg hrg => ?_)
  refine qZ (rZ (wZ rg (o_alloc zav25 ok25 (kk := 3) rfl (fun g1 => (nZ (qZ (rZ (wZ rg (o_bslice td22 ok3 zav3 (es := [.int .i64 0, .int .i64 1]) rfl (kk := 1) rfl rfl rfl rfl rfl rfl (fun g2 => (mvZ (.int .i64 i) rfl (wZ rg (o_build td134 zav134 bok134 szs134 sz134 (ps := [(0, .int .i64 i), (1, .int .i64 0), (2, .int .i64 1)]) rfl rfl (v := .agg [.int .i64 i, .int .i64 0, .int .i64 1]) rfl ?_)))))))))))))
  refine wZ rg (o_bslice td23 ok134 zav134 (es := [.agg [.int .i64 i, .int .i64 0, .int .i64 1]]) rfl (kk := 3) rfl rfl rfl rfl rfl rfl (fun g3 => ?_))
  refine wZ rg (o_build td25 zav25 bok25 szs25 sz25 (ps := [(0, .sl 1 rg 3 g2 0 ([0, 1].length)), (1, .sl 3 rg 6 g3 0 ([(⟨i, 0, 1⟩ : GDNode)].length)), (2, .int .i64 2)]) rfl rfl (v := .agg [.sl 1 rg 3 g2 0 ([0, 1].length), .sl 3 rg 6 g3 0 ([(⟨i, 0, 1⟩ : GDNode)].length), .int .i64 2]) rfl ?_)
  refine wZ rg (o_storeB (atL (k := 2) rfl) sz25 (by decide) rfl (w := .agg [.sl 1 rg 3 g2 0 ([0, 1].length), .sl 3 rg 6 g3 0 ([(⟨i, 0, 1⟩ : GDNode)].length), .int .i64 2]) rfl rfl rfl (v := .agg [.sl 1 rg 3 g2 0 ([0, 1].length), .sl 3 rg 6 g3 0 ([(⟨i, 0, 1⟩ : GDNode)].length), .int .i64 2]) rfl setL (nZ ?_))
  refine Vc.ret' ?_
  refine res_cellA (atL (k := 2) rfl) sz25 (by decide) ag25 rfl rfl (v := .agg [.sl 1 rg 3 g2 0 ([0, 1].length), .sl 3 rg 6 g3 0 ([(⟨i, 0, 1⟩ : GDNode)].length), .int .i64 2]) rfl (res_nil ?_)
  show Gives _ (.agg [.sl 1 rg 3 g2 0 ([0, 1].length), .sl 3 rg 6 g3 0 ([(⟨i, 0, 1⟩ : GDNode)].length), .int .i64 2]) _
  refine gives_freeze (k := 3) (xs := List.map (AV.int .i64) [0, 1]) rfl (v' := .agg [eL (AV.int .i64) [0, 1], .sl 3 rg 6 g3 0 ([(⟨i, 0, 1⟩ : GDNode)].length), .int .i64 2]) (VW.aggL (vl' (frz_full rfl) (vl' (frz_ne rfl) (vl' vr (vn))))) ?_
  refine gives_freeze (k := 6) (xs := List.map eDNode [(⟨i, 0, 1⟩ : GDNode)]) rfl (v' := .agg [eL (AV.int .i64) [0, 1], eL eDNode [(⟨i, 0, 1⟩ : GDNode)], .int .i64 2]) (VW.aggL (vl' vr (vl' (frz_full rfl) (vl' vr (vn))))) ?_
  exact gives_out hrg (VW.refl _) (hQ _ h)
theorem law16_awake_ctr {Q : Bool → Prop} {S : St} {R : AV → St → Prop} (h : law16_awake_W Q) (hQ : ∀ r1, Q r1 → R (AV.bool r1) S) :
    Ctr Try.prog 33 [] S R := by
  unfold law16_awake_W at h
  refine enterT Try.func33 rfl Try.ntmps33 Try.results33 (by kernel_rfl) (fun rg hrg => ?_)
  refine qZ (rZ (asZ (.bool false) rfl (nZ (qZ (rZ (wZ rg (o_call (us := [AV.int .i64 0]) rfl (vl' vr (vn)) (law16_event_ctr h fun r h => (wZ rg (o_call (us := [AV.int .i64 1]) rfl (vl' vr (vn)) (law16_event_ctr h fun r1 h => (wZ rg (o_call (us := [eDiagram r, eDiagram r1]) rfl (vl' vr (vl' vr (vn))) (algebra_Or_ctr h fun r2 r3 h => (mvZ (.tuple [eDiagram r2, eErr 83 r3]) rfl ?_)))))))))))))))
  refine wZ rg (o_extract (v := eDiagram r2) rfl rfl rfl (wZ rg (o_extract (v := eErr 83 r3) rfl rfl rfl (wZ rg (o_alloc zav25 ok25 (kk := 3) rfl (fun g1 => (wZ rg (o_storeB (atL (k := 1) rfl) sz25 (by decide) rfl (w := eDiagram r2) rfl rfl rfl (v := eDiagram r2) rfl setL (asZ (eErr 83 r3) rfl (nZ (qZ (rZ (wZ rg (o_loadBA (atL (k := 1) rfl) sz25 (by decide) ag25 rfl rfl (v := eDiagram r2) rfl ?_))))))))))))))
  refine wZ rg (o_call (us := [eDiagram r2]) rfl (vl' vr (vn)) (algebra_Count_ctr h fun r4 r5 h => (mvZ (.tuple [.int .i64 r4, eErr 83 r5]) rfl (wZ rg (o_extract (v := .int .i64 r4) rfl rfl rfl (wZ rg (o_extract (v := eErr 83 r5) rfl rfl rfl (asZ (.int .i64 r4) rfl (asZ (eErr 83 r5) rfl (nZ (qZ (rZ (wZ rg (o_call (us := [AV.int .i64 0]) rfl (vl' vr (vn)) (law16_event_ctr h fun r6 h => ?_)))))))))))))))
  refine wZ rg (o_call (us := [AV.int .i64 1]) rfl (vl' vr (vn)) (law16_event_ctr h fun r7 h => (wZ rg (o_call (us := [eDiagram r6, eDiagram r7]) rfl (vl' vr (vl' vr (vn))) (algebra_And_ctr h fun r8 r9 h => (mvZ (.tuple [eDiagram r8, eErr 83 r9]) rfl (wZ rg (o_extract (v := eDiagram r8) rfl rfl rfl (wZ rg (o_extract (v := eErr 83 r9) rfl rfl rfl ?_))))))))))
  refine wZ rg (o_alloc zav25 ok25 (kk := 3) rfl (fun g2 => (wZ rg (o_storeB (atL (k := 5) rfl) sz25 (by decide) rfl (w := eDiagram r8) rfl rfl rfl (v := eDiagram r8) rfl setL (asZ (eErr 83 r9) rfl (nZ (qZ (rZ (wZ rg (o_loadBA (atL (k := 5) rfl) sz25 (by decide) ag25 rfl rfl (v := eDiagram r8) rfl (wZ rg (o_call (us := [eDiagram r8]) rfl (vl' vr (vn)) (algebra_Least_ctr h fun r10 r11 r12 h => ?_)))))))))))))
  refine mvZ (.tuple [.int .i64 r10, .bool r11, eErr 83 r12]) rfl (wZ rg (o_extract (v := .int .i64 r10) rfl rfl rfl (wZ rg (o_extract (v := .bool r11) rfl rfl rfl (wZ rg (o_extract (v := eErr 83 r12) rfl rfl rfl (asZ (.int .i64 r10) rfl (asZ (.bool r11) rfl (asZ (eErr 83 r12) rfl (nZ (qZ (rZ (mvZ (eErr 83 r3) rfl (wZ rg (o_isnil td29 (E := 83) rfl rfl rfl (mvZ (.bool (Option.isNone r3)) rfl ?_))))))))))))))))
  refine Wl.guard rfl rfl (fun hb => ?_) (fun hb => ?_)
  · replace h := h.1 hb
    refine mvZ (eErr 83 r5) rfl ?_
    refine Wl.guardT rfl rfl hb ?_
    refine wZ rg (o_isnil td29 (E := 83) rfl rfl rfl (wZ rg (o_pickT rfl hb (v := .bool (Option.isNone r5)) rfl (mvZ (.bool (Option.isNone r5)) rfl ?_))))
    refine Wl.guard rfl rfl (fun hb1 => ?_) (fun hb1 => ?_)
    · replace h := h.1 hb1
      refine mvZ (eErr 83 r9) rfl ?_
      refine Wl.guardT rfl rfl hb1 ?_
      refine wZ rg (o_isnil td29 (E := 83) rfl rfl rfl (wZ rg (o_pickT rfl hb1 (v := .bool (Option.isNone r9)) rfl (mvZ (.bool (Option.isNone r9)) rfl ?_))))
      refine Wl.guard rfl rfl (fun hb2 => ?_) (fun hb2 => ?_)
      · replace h := h.1 hb2
        refine mvZ (eErr 83 r12) rfl ?_
        refine Wl.guardT rfl rfl hb2 ?_
        refine wZ rg (o_isnil td29 (E := 83) rfl rfl rfl (wZ rg (o_pickT rfl hb2 (v := .bool (Option.isNone r12)) rfl (mvZ (.bool (Option.isNone r12)) rfl ?_))))
        refine Wl.guard rfl rfl (fun hb3 => ?_) (fun hb3 => ?_)
        · replace h := h.1 hb3
          refine mvZ (.int .i64 r4) rfl ?_
          refine Wl.guardT rfl rfl hb3 ?_
          refine wZ rg (o_eql rfl rfl (wZ rg (o_pickT rfl hb3 (v := .bool (r4 == 3)) rfl (mvZ (.bool (r4 == 3)) rfl ?_))))
          refine Wl.guard rfl rfl (fun hb4 => ?_) (fun hb4 => ?_)
          · replace h := h.1 hb4
            refine mvZ (.bool r11) rfl (wZ rg (o_pickT rfl hb4 (v := .bool r11) rfl (mvZ (.bool r11) rfl ?_)))
            refine Wl.guard rfl rfl (fun hb5 => ?_) (fun hb5 => ?_)
            · replace h := h.1 hb5
              refine mvZ (.int .i64 r10) rfl ?_
              refine Wl.guardT rfl rfl hb5 ?_
              refine wZ rg (o_eql rfl rfl (wZ rg (o_pickT rfl hb5 (v := .bool (r10 == 3)) rfl (mvZ (.bool (r10 == 3)) rfl ?_))))
              refine Wl.guard rfl rfl (fun hb6 => ?_) (fun hb6 => ?_)
              · replace h := h.1 hb6
                refine wZ rg (o_faP td25 rfl rfl (by rw [sz23]; decide) rfl ?_)
                refine Wl.guardT rfl rfl hb6 ?_
                refine wZ rg (o_loadB1 (atL (k := 1) rfl) sz23 ag23 rfl rfl (v := eL eDNode r2.Nodes) rfl ?_)
                refine Wl.guardT rfl rfl hb6 ?_
                refine wZ rg (o_len td23 rfl ?_)
                refine Wl.guardT rfl rfl hb6 ?_
                refine wZ rg (o_eql rfl rfl (wZ rg (o_pickT rfl hb6 (v := .bool ((r2.Nodes.length : Int) == 2)) rfl (asZ (.bool ((r2.Nodes.length : Int) == 2)) rfl (nZ ?_)))))
                refine Vc.ret' ?_
                refine res_tmp (v := .bool ((r2.Nodes.length : Int) == 2)) rfl (res_nil ?_)
                show Gives _ (.bool ((r2.Nodes.length : Int) == 2)) _
                exact gives_out hrg (VW.refl _) (hQ _ h)
              replace h := h.2 hb6
              refine Wl.guardF rfl rfl hb6 rfl ?_
              refine Wl.guardF rfl rfl hb6 rfl ?_
              refine Wl.guardF rfl rfl hb6 rfl ?_
              refine wZ rg (o_pickF rfl hb6 (v := .bool false) rfl (asZ (.bool false) rfl (nZ ?_)))
              refine Vc.ret' ?_
              refine res_tmp (v := .bool false) rfl (res_nil ?_)
              show Gives _ (.bool false) _
              exact gives_out hrg (VW.refl _) (hQ _ h)
            replace h := h.2 hb5
            refine Wl.guardF rfl rfl hb5 rfl ?_
            refine wZ rg (o_pickF rfl hb5 (v := .bool false) rfl (mvZ (.bool false) rfl ?_))
            refine Wl.guardF rfl rfl rfl rfl ?_
            refine Wl.guardF rfl rfl rfl rfl ?_
            refine Wl.guardF rfl rfl rfl rfl ?_
            refine Wl.guardF rfl rfl rfl rfl ?_
            refine wZ rg (o_pickF rfl rfl (v := .bool false) rfl (asZ (.bool false) rfl (nZ ?_)))
            refine Vc.ret' ?_
            refine res_tmp (v := .bool false) rfl (res_nil ?_)
            show Gives _ (.bool false) _
            exact gives_out hrg (VW.refl _) (hQ _ h)
          replace h := h.2 hb4
          refine wZ rg (o_pickF rfl hb4 (v := .bool false) rfl (mvZ (.bool false) rfl ?_))
          refine Wl.guardF rfl rfl rfl rfl ?_
          refine Wl.guardF rfl rfl rfl rfl ?_
          refine wZ rg (o_pickF rfl rfl (v := .bool false) rfl (mvZ (.bool false) rfl ?_))
          refine Wl.guardF rfl rfl rfl rfl ?_
          refine Wl.guardF rfl rfl rfl rfl ?_
          refine Wl.guardF rfl rfl rfl rfl ?_
          refine Wl.guardF rfl rfl rfl rfl ?_
          refine wZ rg (o_pickF rfl rfl (v := .bool false) rfl (asZ (.bool false) rfl (nZ ?_)))
          refine Vc.ret' ?_
          refine res_tmp (v := .bool false) rfl (res_nil ?_)
          show Gives _ (.bool false) _
          exact gives_out hrg (VW.refl _) (hQ _ h)
        replace h := h.2 hb3
        refine Wl.guardF rfl rfl hb3 rfl ?_
        refine wZ rg (o_pickF rfl hb3 (v := .bool false) rfl (mvZ (.bool false) rfl ?_))
        refine Wl.guardF rfl rfl rfl rfl ?_
        refine wZ rg (o_pickF rfl rfl (v := .bool false) rfl (mvZ (.bool false) rfl ?_))
        refine Wl.guardF rfl rfl rfl rfl ?_
        refine Wl.guardF rfl rfl rfl rfl ?_
        refine wZ rg (o_pickF rfl rfl (v := .bool false) rfl (mvZ (.bool false) rfl ?_))
        refine Wl.guardF rfl rfl rfl rfl ?_
        refine Wl.guardF rfl rfl rfl rfl ?_
        refine Wl.guardF rfl rfl rfl rfl ?_
        refine Wl.guardF rfl rfl rfl rfl ?_
        refine wZ rg (o_pickF rfl rfl (v := .bool false) rfl (asZ (.bool false) rfl (nZ ?_)))
        refine Vc.ret' ?_
        refine res_tmp (v := .bool false) rfl (res_nil ?_)
        show Gives _ (.bool false) _
        exact gives_out hrg (VW.refl _) (hQ _ h)
      replace h := h.2 hb2
      refine Wl.guardF rfl rfl hb2 rfl ?_
      refine wZ rg (o_pickF rfl hb2 (v := .bool false) rfl (mvZ (.bool false) rfl ?_))
      refine Wl.guardF rfl rfl rfl rfl ?_
      refine Wl.guardF rfl rfl rfl rfl ?_
      refine wZ rg (o_pickF rfl rfl (v := .bool false) rfl (mvZ (.bool false) rfl ?_))
      refine Wl.guardF rfl rfl rfl rfl ?_
      refine wZ rg (o_pickF rfl rfl (v := .bool false) rfl (mvZ (.bool false) rfl ?_))
      refine Wl.guardF rfl rfl rfl rfl ?_
      refine Wl.guardF rfl rfl rfl rfl ?_
      refine wZ rg (o_pickF rfl rfl (v := .bool false) rfl (mvZ (.bool false) rfl ?_))
      refine Wl.guardF rfl rfl rfl rfl ?_
      refine Wl.guardF rfl rfl rfl rfl ?_
      refine Wl.guardF rfl rfl rfl rfl ?_
      refine Wl.guardF rfl rfl rfl rfl ?_
      refine wZ rg (o_pickF rfl rfl (v := .bool false) rfl (asZ (.bool false) rfl (nZ ?_)))
      refine Vc.ret' ?_
      refine res_tmp (v := .bool false) rfl (res_nil ?_)
      show Gives _ (.bool false) _
      exact gives_out hrg (VW.refl _) (hQ _ h)
    replace h := h.2 hb1
    refine Wl.guardF rfl rfl hb1 rfl ?_
    refine wZ rg (o_pickF rfl hb1 (v := .bool false) rfl (mvZ (.bool false) rfl ?_))
    refine Wl.guardF rfl rfl rfl rfl ?_
    refine Wl.guardF rfl rfl rfl rfl ?_
    refine wZ rg (o_pickF rfl rfl (v := .bool false) rfl (mvZ (.bool false) rfl ?_))
    refine Wl.guardF rfl rfl rfl rfl ?_
    refine Wl.guardF rfl rfl rfl rfl ?_
    refine wZ rg (o_pickF rfl rfl (v := .bool false) rfl (mvZ (.bool false) rfl ?_))
    refine Wl.guardF rfl rfl rfl rfl ?_
    refine wZ rg (o_pickF rfl rfl (v := .bool false) rfl (mvZ (.bool false) rfl ?_))
    refine Wl.guardF rfl rfl rfl rfl ?_
    refine Wl.guardF rfl rfl rfl rfl ?_
    refine wZ rg (o_pickF rfl rfl (v := .bool false) rfl (mvZ (.bool false) rfl ?_))
    refine Wl.guardF rfl rfl rfl rfl ?_
    refine Wl.guardF rfl rfl rfl rfl ?_
    refine Wl.guardF rfl rfl rfl rfl ?_
    refine Wl.guardF rfl rfl rfl rfl ?_
    refine wZ rg (o_pickF rfl rfl (v := .bool false) rfl (asZ (.bool false) rfl (nZ ?_)))
    refine Vc.ret' ?_
    refine res_tmp (v := .bool false) rfl (res_nil ?_)
    show Gives _ (.bool false) _
    exact gives_out hrg (VW.refl _) (hQ _ h)
  replace h := h.2 hb
  refine Wl.guardF rfl rfl hb rfl ?_
  refine wZ rg (o_pickF rfl hb (v := .bool false) rfl (mvZ (.bool false) rfl ?_))
  refine Wl.guardF rfl rfl rfl rfl ?_
  refine Wl.guardF rfl rfl rfl rfl ?_
  refine wZ rg (o_pickF rfl rfl (v := .bool false) rfl (mvZ (.bool false) rfl ?_))
  refine Wl.guardF rfl rfl rfl rfl ?_
  refine Wl.guardF rfl rfl rfl rfl ?_
  refine wZ rg (o_pickF rfl rfl (v := .bool false) rfl (mvZ (.bool false) rfl ?_))
  refine Wl.guardF rfl rfl rfl rfl ?_
  refine Wl.guardF rfl rfl rfl rfl ?_
  refine wZ rg (o_pickF rfl rfl (v := .bool false) rfl (mvZ (.bool false) rfl ?_))
  refine Wl.guardF rfl rfl rfl rfl ?_
  refine wZ rg (o_pickF rfl rfl (v := .bool false) rfl (mvZ (.bool false) rfl ?_))
  refine Wl.guardF rfl rfl rfl rfl ?_
  refine Wl.guardF rfl rfl rfl rfl ?_
  refine wZ rg (o_pickF rfl rfl (v := .bool false) rfl (mvZ (.bool false) rfl ?_))
  refine Wl.guardF rfl rfl rfl rfl ?_
  refine Wl.guardF rfl rfl rfl rfl ?_
  refine Wl.guardF rfl rfl rfl rfl ?_
  refine Wl.guardF rfl rfl rfl rfl ?_
  refine wZ rg (o_pickF rfl rfl (v := .bool false) rfl (asZ (.bool false) rfl (nZ ?_)))
  refine Vc.ret' ?_
  refine res_tmp (v := .bool false) rfl (res_nil ?_)
  show Gives _ (.bool false) _
  exact gives_out hrg (VW.refl _) (hQ _ h)
theorem law16_large_ctr {d : GDiagram} {Q : Bool → Prop} {S : St} {R : AV → St → Prop} (h : law16_large_W d Q) (hQ : ∀ r1, Q r1 → R (AV.bool r1) S) :
    Ctr Try.prog 34 [eDiagram d] S R := by
  unfold law16_large_W at h
  refine enterT Try.func34 rfl Try.ntmps34 Try.results34 (by kernel_rfl) (fun rg hrg => ?_)
  refine qZ (rZ (wZ rg (o_box (v := eDiagram d) rfl rfl (kk := 3) rfl (by decide) (fun g1 => (asZ (.bool false) rfl (nZ (qZ (rZ (wZ rg (o_faP td25 rfl rfl (by rw [sz23]; decide) rfl (wZ rg (o_loadB1 (atL (k := 1) rfl) sz23 ag23 rfl rfl (v := eL eDNode d.Nodes) rfl (wZ rg (o_len td23 rfl (wZ rg (o_gtr rfl rfl (mvZ (.bool (decide (300 < (d.Nodes.length : Int)))) rfl ?_)))))))))))))))))
  refine Wl.guard rfl rfl (fun hb => ?_) (fun hb => ?_)
  · replace h := h.1 hb
    refine wZ rg (o_faP td25 rfl rfl (by rw [sz23]; decide) rfl ?_)
    refine Wl.guardT rfl rfl hb ?_
    refine wZ rg (o_loadB1 (atL (k := 1) rfl) sz23 ag23 rfl rfl (v := eL eDNode d.Nodes) rfl ?_)
    refine Wl.guardT rfl rfl hb ?_
    refine wZ rg (o_len td23 rfl ?_)
    refine Wl.guardT rfl rfl hb ?_
    refine wZ rg (o_leq rfl rfl (wZ rg (o_pickT rfl hb (v := .bool (decide ((d.Nodes.length : Int) ≤ 4096))) rfl (mvZ (.bool (decide ((d.Nodes.length : Int) ≤ 4096))) rfl ?_))))
    refine Wl.guard rfl rfl (fun hb1 => ?_) (fun hb1 => ?_)
    · replace h := h.2 hb1
      refine wZ rg (o_faP td25 rfl rfl (by rw [sz22]; decide) rfl ?_)
      refine Wl.guardT rfl rfl hb1 ?_
      refine wZ rg (o_loadB1 (atL (k := 1) rfl) sz22 ag22 rfl rfl (v := eL (AV.int .i64) d.Order) rfl ?_)
      refine Wl.guardT rfl rfl hb1 ?_
      refine wZ rg (o_len td22 rfl ?_)
      refine Wl.guardT rfl rfl hb1 ?_
      refine wZ rg (o_gtr rfl rfl ?_)
      refine Wl.guardT rfl rfl hb1 ?_
      refine mvZ (.bool (decide (8 < (d.Order.length : Int)))) rfl ?_
      refine Wl.guard rfl rfl (fun hb2 => ?_) (fun hb2 => ?_)
      · replace h := h.1 hb2
        refine wZ rg (o_loadBA (atL (k := 1) rfl) sz25 (by decide) ag25 rfl rfl (v := eDiagram d) rfl ?_)
        refine Wl.guardT rfl rfl hb2 ?_
        refine wZ rg (o_call (us := [eDiagram d]) rfl (vl' vr (vn)) (ref15_Check_ctr h fun r h => ?_))
        refine Wl.guardT rfl rfl hb2 ?_
        refine wZ rg (o_eql rfl rfl ?_)
        refine Wl.guardT rfl rfl hb1 ?_
        refine wZ rg (o_pickT rfl hb2 (v := .bool (r == 0)) rfl (wZ rg (o_pickF rfl hb1 (v := .bool (r == 0)) rfl (mvZ (.bool (r == 0)) rfl ?_))))
        refine Wl.guard rfl rfl (fun hb3 => ?_) (fun hb3 => ?_)
        · replace h := h.2 hb3
          refine wZ rg (o_faP td25 rfl rfl (by rw [sz22]; decide) rfl ?_)
          refine Wl.guardT rfl rfl hb3 ?_
          refine wZ rg (o_loadB1 (atL (k := 1) rfl) sz22 ag22 rfl rfl (v := eL (AV.int .i64) d.Order) rfl ?_)
          refine Wl.guardT rfl rfl hb3 ?_
          refine wZ rg (o_len td22 rfl ?_)
          refine Wl.guardT rfl rfl hb3 ?_
          refine wZ rg (o_gtr rfl rfl (wZ rg (o_pickF rfl hb3 (v := .bool (decide (100 < (d.Order.length : Int)))) rfl (asZ (.bool (decide (100 < (d.Order.length : Int)))) rfl (nZ ?_)))))
          refine Vc.ret' ?_
          refine res_tmp (v := .bool (decide (100 < (d.Order.length : Int)))) rfl (res_nil ?_)
          show Gives _ (.bool (decide (100 < (d.Order.length : Int)))) _
          exact gives_out hrg (VW.refl _) (hQ _ h)
        replace h := h.1 hb3
        refine Wl.guardF rfl rfl hb3 rfl ?_
        refine Wl.guardF rfl rfl hb3 rfl ?_
        refine Wl.guardF rfl rfl hb3 rfl ?_
        refine wZ rg (o_pickT rfl hb3 (v := .bool true) rfl (asZ (.bool true) rfl (nZ ?_)))
        refine Vc.ret' ?_
        refine res_tmp (v := .bool true) rfl (res_nil ?_)
        show Gives _ (.bool true) _
        exact gives_out hrg (VW.refl _) (hQ _ h)
      replace h := h.2 hb2
      refine Wl.guardF rfl rfl hb2 rfl ?_
      refine Wl.guardF rfl rfl hb2 rfl ?_
      refine Wl.guardT rfl rfl hb1 ?_
      refine wZ rg (o_pickF rfl hb2 (v := .bool false) rfl (wZ rg (o_pickF rfl hb1 (v := .bool false) rfl (mvZ (.bool false) rfl ?_))))
      refine Wl.guardT rfl rfl rfl ?_
      refine wZ rg (o_faP td25 rfl rfl (by rw [sz22]; decide) rfl ?_)
      refine Wl.guardT rfl rfl rfl ?_
      refine wZ rg (o_loadB1 (atL (k := 1) rfl) sz22 ag22 rfl rfl (v := eL (AV.int .i64) d.Order) rfl ?_)
      refine Wl.guardT rfl rfl rfl ?_
      refine wZ rg (o_len td22 rfl ?_)
      refine Wl.guardT rfl rfl rfl ?_
      refine wZ rg (o_gtr rfl rfl (wZ rg (o_pickF rfl rfl (v := .bool (decide (100 < (d.Order.length : Int)))) rfl (asZ (.bool (decide (100 < (d.Order.length : Int)))) rfl (nZ ?_)))))
      refine Vc.ret' ?_
      refine res_tmp (v := .bool (decide (100 < (d.Order.length : Int)))) rfl (res_nil ?_)
      show Gives _ (.bool (decide (100 < (d.Order.length : Int)))) _
      exact gives_out hrg (VW.refl _) (hQ _ h)
    replace h := h.1 hb1
    refine Wl.guardF rfl rfl hb1 rfl ?_
    refine Wl.guardF rfl rfl hb1 rfl ?_
    refine Wl.guardF rfl rfl hb1 rfl ?_
    refine Wl.guardF rfl rfl hb1 rfl ?_
    refine Wl.guardU rfl rfl ?_
    refine Wl.guardU rfl rfl ?_
    refine Wl.guardU rfl rfl ?_
    refine Wl.guardF rfl rfl hb1 rfl ?_
    refine wZ rg (o_pickT rfl hb1 (v := .bool true) rfl (mvZ (.bool true) rfl ?_))
    refine Wl.guardF rfl rfl rfl rfl ?_
    refine Wl.guardF rfl rfl rfl rfl ?_
    refine Wl.guardF rfl rfl rfl rfl ?_
    refine Wl.guardF rfl rfl rfl rfl ?_
    refine wZ rg (o_pickT rfl rfl (v := .bool true) rfl (asZ (.bool true) rfl (nZ ?_)))
    refine Vc.ret' ?_
    refine res_tmp (v := .bool true) rfl (res_nil ?_)
    show Gives _ (.bool true) _
    exact gives_out hrg (VW.refl _) (hQ _ h)
  replace h := h.2 hb
  refine Wl.guardF rfl rfl hb rfl ?_
  refine Wl.guardF rfl rfl hb rfl ?_
  refine Wl.guardF rfl rfl hb rfl ?_
  refine wZ rg (o_pickF rfl hb (v := .bool false) rfl (mvZ (.bool false) rfl ?_))
  refine Wl.guardT rfl rfl rfl ?_
  refine wZ rg (o_faP td25 rfl rfl (by rw [sz22]; decide) rfl ?_)
  refine Wl.guardT rfl rfl rfl ?_
  refine wZ rg (o_loadB1 (atL (k := 1) rfl) sz22 ag22 rfl rfl (v := eL (AV.int .i64) d.Order) rfl ?_)
  refine Wl.guardT rfl rfl rfl ?_
  refine wZ rg (o_len td22 rfl ?_)
  refine Wl.guardT rfl rfl rfl ?_
  refine wZ rg (o_gtr rfl rfl ?_)
  refine Wl.guardT rfl rfl rfl ?_
  refine mvZ (.bool (decide (8 < (d.Order.length : Int)))) rfl ?_
  refine Wl.guard rfl rfl (fun hb4 => ?_) (fun hb4 => ?_)
  · replace h := h.1 hb4
    refine wZ rg (o_loadBA (atL (k := 1) rfl) sz25 (by decide) ag25 rfl rfl (v := eDiagram d) rfl ?_)
    refine Wl.guardT rfl rfl hb4 ?_
    refine wZ rg (o_call (us := [eDiagram d]) rfl (vl' vr (vn)) (ref15_Check_ctr h fun r1 h => ?_))
    refine Wl.guardT rfl rfl hb4 ?_
    refine wZ rg (o_eql rfl rfl ?_)
    refine Wl.guardT rfl rfl rfl ?_
    refine wZ rg (o_pickT rfl hb4 (v := .bool (r1 == 0)) rfl (wZ rg (o_pickF rfl rfl (v := .bool (r1 == 0)) rfl (mvZ (.bool (r1 == 0)) rfl ?_))))
    refine Wl.guard rfl rfl (fun hb5 => ?_) (fun hb5 => ?_)
    · replace h := h.2 hb5
      refine wZ rg (o_faP td25 rfl rfl (by rw [sz22]; decide) rfl ?_)
      refine Wl.guardT rfl rfl hb5 ?_
      refine wZ rg (o_loadB1 (atL (k := 1) rfl) sz22 ag22 rfl rfl (v := eL (AV.int .i64) d.Order) rfl ?_)
      refine Wl.guardT rfl rfl hb5 ?_
      refine wZ rg (o_len td22 rfl ?_)
      refine Wl.guardT rfl rfl hb5 ?_
      refine wZ rg (o_gtr rfl rfl (wZ rg (o_pickF rfl hb5 (v := .bool (decide (100 < (d.Order.length : Int)))) rfl (asZ (.bool (decide (100 < (d.Order.length : Int)))) rfl (nZ ?_)))))
      refine Vc.ret' ?_
      refine res_tmp (v := .bool (decide (100 < (d.Order.length : Int)))) rfl (res_nil ?_)
      show Gives _ (.bool (decide (100 < (d.Order.length : Int)))) _
      exact gives_out hrg (VW.refl _) (hQ _ h)
    replace h := h.1 hb5
    refine Wl.guardF rfl rfl hb5 rfl ?_
    refine Wl.guardF rfl rfl hb5 rfl ?_
    refine Wl.guardF rfl rfl hb5 rfl ?_
    refine wZ rg (o_pickT rfl hb5 (v := .bool true) rfl (asZ (.bool true) rfl (nZ ?_)))
    refine Vc.ret' ?_
    refine res_tmp (v := .bool true) rfl (res_nil ?_)
    show Gives _ (.bool true) _
    exact gives_out hrg (VW.refl _) (hQ _ h)
  replace h := h.2 hb4
  refine Wl.guardF rfl rfl hb4 rfl ?_
  refine Wl.guardF rfl rfl hb4 rfl ?_
  refine Wl.guardT rfl rfl rfl ?_
  refine wZ rg (o_pickF rfl hb4 (v := .bool false) rfl (wZ rg (o_pickF rfl rfl (v := .bool false) rfl (mvZ (.bool false) rfl ?_))))
  refine Wl.guardT rfl rfl rfl ?_
  refine wZ rg (o_faP td25 rfl rfl (by rw [sz22]; decide) rfl ?_)
  refine Wl.guardT rfl rfl rfl ?_
  refine wZ rg (o_loadB1 (atL (k := 1) rfl) sz22 ag22 rfl rfl (v := eL (AV.int .i64) d.Order) rfl ?_)
  refine Wl.guardT rfl rfl rfl ?_
  refine wZ rg (o_len td22 rfl ?_)
  refine Wl.guardT rfl rfl rfl ?_
  refine wZ rg (o_gtr rfl rfl (wZ rg (o_pickF rfl rfl (v := .bool (decide (100 < (d.Order.length : Int)))) rfl (asZ (.bool (decide (100 < (d.Order.length : Int)))) rfl (nZ ?_)))))
  refine Vc.ret' ?_
  refine res_tmp (v := .bool (decide (100 < (d.Order.length : Int)))) rfl (res_nil ?_)
  show Gives _ (.bool (decide (100 < (d.Order.length : Int)))) _
  exact gives_out hrg (VW.refl _) (hQ _ h)
theorem law16_none_ctr {d : GDiagram} {e : Option Int} {code : Int} {Q : Bool → Prop} {S : St} {R : AV → St → Prop} (h : law16_none_W d e code Q) (hQ : ∀ r1, Q r1 → R (AV.bool r1) S) :
    Ctr Try.prog 39 [eDiagram d, eErr 83 e, AV.int .i64 code] S R := by
  unfold law16_none_W at h
  refine enterT Try.func39 rfl Try.ntmps39 Try.results39 (by kernel_rfl) (fun rg hrg => ?_)
  refine qZ (rZ (wZ rg (o_box (v := eDiagram d) rfl rfl (kk := 3) rfl (by decide) (fun g1 => (asZ (.bool false) rfl (nZ (qZ (rZ (wZ rg (o_loadBA (atL (k := 3) rfl) sz25 (by decide) ag25 rfl rfl (v := eDiagram d) rfl (wZ rg (o_build td25 zav25 bok25 szs25 sz25 (ps := []) rfl rfl (v := .agg [.nil, .nil, .int .i64 0]) rfl ?_))))))))))))
  refine wZ rg (o_call (us := [eDiagram d, eDiagram (⟨[], [], 0⟩ : GDiagram)]) rfl (vl' vr (vl' (VW.aggL (vl' (VW.nilL) (vl' (VW.nilL) (vl' vr (vn))))) (vn))) (base_Diagram_ctr h fun r h => (mvZ (.bool r) rfl ?_)))
  refine Wl.guard rfl rfl (fun hb => ?_) (fun hb => ?_)
  · replace h := h.1 hb
    refine mvZ (eErr 83 e) rfl ?_
    refine Wl.guardT rfl rfl hb ?_
    refine wZ rg (o_call (us := [eErr 83 e]) rfl (vl' vr (vn)) (base_Num_ctr h fun r1 h => ?_))
    refine Wl.guardT rfl rfl hb ?_
    refine mvZ (.int .i64 code) rfl ?_
    refine Wl.guardT rfl rfl hb ?_
    refine wZ rg (o_eql rfl rfl (wZ rg (o_pickT rfl hb (v := .bool (r1 == code)) rfl (asZ (.bool (r1 == code)) rfl (nZ ?_)))))
    refine Vc.ret' ?_
    refine res_tmp (v := .bool (r1 == code)) rfl (res_nil ?_)
    show Gives _ (.bool (r1 == code)) _
    exact gives_out hrg (VW.refl _) (hQ _ h)
  replace h := h.2 hb
  refine Wl.guardF rfl rfl hb rfl ?_
  refine Wl.guardF rfl rfl hb rfl ?_
  refine Wl.guardF rfl rfl hb rfl ?_
  refine wZ rg (o_pickF rfl hb (v := .bool false) rfl (asZ (.bool false) rfl (nZ ?_)))
  refine Vc.ret' ?_
  refine res_tmp (v := .bool false) rfl (res_nil ?_)
  show Gives _ (.bool false) _
  exact gives_out hrg (VW.refl _) (hQ _ h)
theorem law16_valid_ctr {l : List GDiagram} {Q : Bool → Prop} {S : St} {R : AV → St → Prop} (h : law16_valid_W l Q) (hQ : ∀ r1, Q r1 → R (AV.bool r1) S) :
    Ctr Try.prog 45 [eL eDiagram l] S R := by
  unfold law16_valid_W at h
  refine enterT Try.func45 rfl Try.ntmps45 Try.results45 (by kernel_rfl) (fun rg hrg => ?_)
  refine qZ (rZ (asZ (.bool false) rfl (nZ (qZ (qZ (rZ (asZ (.int .i64 0) rfl (nZ ?_))))))))
  refine Vc.blk ?_
  obtain ⟨I, μ, h0, hI⟩ := h
  refine Vc.loop' (σ := (Int)) (fun y => I y) (fun y => μ y) (fun y => envOf [(0, eL eDiagram l), (3, .int .i64 y)]) (fun y => stL S rg []) 0 (canon (fc vr (fc vr (fn))) (sn)) h0 (fun i h => ?_)
  replace h := hI i h
  show Vc _ _ _ _ (envOf [(0, eL eDiagram l), (3, .int .i64 i)]) (stL S rg [])
  refine qZ (qZ (rZ (mvZ (.int .i64 i) rfl (mvZ (eL eDiagram l) rfl (wZ rg (o_len td142 rfl (wZ rg (o_lss rfl rfl (nZ ?_)))))))))
  refine Vc.cond' rfl (fun hb => ?_) (fun hb => ?_)
  · replace h := h.1 hb
    refine Vc.skip' ?_
    refine qZ ?_
    refine Vc.blk ?_
    refine qZ (rZ (mvZ (eL eDiagram l) rfl (mvZ (.int .i64 i) rfl (wZ rg (o_idxL td142 sz25 (by decide) (fun _ => rfl) rfl rfl h.1 ?_)))))
    replace h := h.2
    refine wZ rg (o_loadIA sz25 (by decide) ag25 rfl rfl (v := eDiagram (at' l i)) rfl (wZ rg (o_call (us := [eDiagram (at' l i)]) rfl (vl' vr (vn)) (law16_large_ctr h fun r h => (nZ ?_)))))
    refine Vc.cond' rfl (fun hb1 => ?_) (fun hb1 => ?_)
    · replace h := h.1 hb1
      refine qZ (rZ (asZ (.bool false) rfl (nZ ?_)))
      refine Vc.ret' ?_
      refine res_tmp (v := .bool false) rfl (res_nil ?_)
      show Gives _ (.bool false) _
      exact gives_out hrg (VW.refl _) (hQ _ h)
    replace h := h.2 hb1
    refine Vc.skip' ?_
    refine rZ ?_
    refine mvZ (.int .i64 i) rfl (wZ rg (o_addG rfl rfl h.1 ?_))
    replace h := h.2
    refine asZ (.int .i64 (i + 1)) rfl (nZ ?_)
    exact ⟨(i + 1), (canon (fc vr (fc vr (fn))) (sn)), h⟩
  replace h := h.2 hb
  refine Vc.exit' (exB_self ?_)
  refine qZ (rZ (mvZ (eL eDiagram l) rfl (wZ rg (o_call (us := [eL eDiagram l]) rfl (vl' vr (vn)) (ref16_Check_ctr h fun r1 h => (wZ rg (o_eql rfl rfl (asZ (.bool (r1 == 0)) rfl (nZ ?_)))))))))
  refine Vc.ret' ?_
  refine res_tmp (v := .bool (r1 == 0)) rfl (res_nil ?_)
  show Gives _ (.bool (r1 == 0)) _
  exact gives_out hrg (VW.refl _) (hQ _ h)
end Go.Proofs.Ytllegjdggcmgaaa
