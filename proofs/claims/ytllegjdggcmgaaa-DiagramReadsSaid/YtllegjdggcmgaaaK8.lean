/- Walks of functions. Conditions: none. -/
import Derived.Test.YtllegjdggcmgaaaWa
import Derived.Test.YtllegjdggcmgaaaGgTy
import Derived.Test.YtllegjdggcmgaaaK1
import Derived.Test.YtllegjdggcmgaaaK6
import Derived.Test.YtllegjdggcmgaaaK4
/- Walks of functions. Conditions: none. -/
namespace Go.Proofs.Ytllegjdggcmgaaa
open Go.Gg
set_option maxRecDepth 100000
theorem diagram_Support_ctr {d : GDiagram} {Q : Int → Option Int → Prop} {S : St} {R : AV → St → Prop} (h : diagram_Support_W d Q) (hQ : ∀ r1 r2, Q r1 r2 → R (.tuple [AV.int .i64 r1, eErr 83 r2]) S) :
    Ctr Try.prog 74 [eDiagram d] S R := by
  unfold diagram_Support_W at h
  refine enterT Try.func74 rfl Try.ntmps74 Try.results74 (by kernel_rfl) (fun rg hrg => ?_)
  refine qZ (rZ (wZ rg (o_box (v := eDiagram d) rfl rfl (kk := 3) rfl (by decide) (fun g1 => (asZ (.int .i64 0) rfl (asZ .niface rfl (nZ (qZ (qZ (rZ (wZ rg (o_loadBA (atL (k := 1) rfl) sz25 (by decide) ag25 rfl rfl (v := eDiagram d) rfl (wZ rg (o_call (us := [eDiagram d]) rfl (vl' vr (vn)) (diagram_Check_ctr h fun err h => (asZ (eErr 83 err) rfl (nZ (qZ (rZ (mvZ (eErr 83 err) rfl ?_))))))))))))))))))))
  refine wZ rg (o_isnon td29 (E := 83) rfl rfl rfl (nZ ?_))
  refine Vc.cond' rfl (fun hb => ?_) (fun hb => ?_)
  · replace h := h.1 hb
    refine qZ (rZ (mvZ (eErr 83 err) rfl (asZ (.int .i64 0) rfl (asZ (eErr 83 err) rfl (nZ ?_)))))
    refine Vc.ret' ?_
    refine res_tmp (v := .int .i64 0) rfl (res_tmp (v := eErr 83 err) rfl (res_nil ?_))
    show Gives _ (.tuple [.int .i64 0, eErr 83 err]) _
    exact gives_out hrg (VW.tupL (vl' vr (vl' vr (vn)))) (hQ _ _ h)
  replace h := h.2 hb
  refine Vc.skip' ?_
  refine qZ (rZ (asZ (.int .i64 0) rfl (nZ (qZ (qZ (rZ (wZ rg (o_faP td25 rfl rfl (by rw [sz23]; decide) rfl (wZ rg (o_loadB1 (atL (k := 1) rfl) sz23 ag23 rfl rfl (v := eL eDNode d.Nodes) rfl (wZ rg (o_len td23 rfl (mvZ (.int .i64 0) rfl (nZ ?_))))))))))))))
  refine Vc.blk ?_
  obtain ⟨I, μ, h0, hI⟩ := h
  refine Vc.loop' (σ := (Int × Int)) (fun y => I y) (fun y => μ y) (fun y => envOf [(5, .int .i64 y.1), (14, eL eDNode d.Nodes), (15, .int .i64 (d.Nodes.length : Int)), (16, .int .i64 y.2)]) (fun y => stL S rg []) (0, 0) (canon (fc vr (fc vr (fc vr (fc vr (fn))))) (sn)) h0 (fun y h => ?_)
  obtain ⟨out, x⟩ := y
  replace h := hI (out, x) h
  show Vc _ _ _ _ (envOf [(5, .int .i64 out), (14, eL eDNode d.Nodes), (15, .int .i64 (d.Nodes.length : Int)), (16, .int .i64 x)]) (stL S rg [])
  refine qZ (rZ (wZ rg (o_lss rfl rfl (nZ (qZ ?_)))))
  refine Vc.cond' rfl (fun hb1 => ?_) (fun hb1 => ?_)
  · replace h := h.1 hb1
    refine Vc.skip' ?_
    refine qZ ?_
    refine Vc.blk ?_
    refine qZ (rZ (wZ rg (o_idxL td23 sz134 (by decide) (fun _ => rfl) rfl rfl h.1 ?_)))
    replace h := h.2
    refine wZ rg (o_loadIA sz134 (by decide) ag134 rfl rfl (v := eDNode (at' d.Nodes x)) rfl (wZ rg (o_alloc zav134 ok134 (kk := 3) rfl (fun g2 => (wZ rg (o_storeB (atL (k := 7) rfl) sz134 (by decide) rfl (w := eDNode (at' d.Nodes x)) rfl rfl rfl (v := eDNode (at' d.Nodes x)) rfl setL (nZ (rZ (mvZ (.int .i64 out) rfl (wZ rg (o_faP td134 rfl rfl (by rw [sz3]; decide) rfl ?_)))))))))))
    refine wZ rg (o_loadB1 (atL (k := 7) rfl) sz3 ag3 rfl rfl (v := .int .i64 ((at' d.Nodes x).Var)) rfl (wZ rg (o_shlG rfl rfl h.1 ?_)))
    replace h := h.2
    refine wZ rg (o_or rfl rfl ?_)
    obtain ⟨out1, hs⟩ : ∃ qz : Int, qz = (bits .or .i64 out (1 * 2 ^ (Int.toNat ((at' d.Nodes x).Var)))) := ⟨_, rfl⟩
    replace h := h out1 hs
    refine wZ rg (o_assign (v := .int .i64 out1) (by subst hs; rfl) (nZ (rZ (wZ rg (o_addG rfl rfl h.1 ?_)))))
    replace h := h.2
    refine mvZ (.int .i64 (x + 1)) rfl (nZ ?_)
    exact ⟨(out1, (x + 1)), (canon (fc vr (fc vr (fc vr (fc vr (fn))))) (sn)), h⟩
  replace h := h.2 hb1
  refine Vc.exit' (exB_self ?_)
  refine qZ (rZ (mvZ (.int .i64 out) rfl (asZ (.int .i64 out) rfl (asZ .niface rfl (nZ ?_)))))
  refine Vc.ret' ?_
  refine res_tmp (v := .int .i64 out) rfl (res_tmp (v := .niface) rfl (res_nil ?_))
  show Gives _ (.tuple [.int .i64 out, .niface]) _
  exact gives_out hrg (VW.tupL (vl' vr (vl' vr (vn)))) (hQ _ _ h)
end Go.Proofs.Ytllegjdggcmgaaa
/- Walks of functions. Conditions: none. -/
namespace Go.Proofs.Ytllegjdggcmgaaa
open Go.Gg
set_option maxRecDepth 100000
theorem diagram_Size_ctr {d : GDiagram} {Q : Int → Option Int → Prop} {S : St} {R : AV → St → Prop} (h : diagram_Size_W d Q) (hQ : ∀ r1 r2, Q r1 r2 → R (.tuple [AV.int .i64 r1, eErr 83 r2]) S) :
    Ctr Try.prog 75 [eDiagram d] S R := by
  unfold diagram_Size_W at h
  refine enterT Try.func75 rfl Try.ntmps75 Try.results75 (by kernel_rfl) (fun rg hrg => ?_)
  refine qZ (rZ (wZ rg (o_box (v := eDiagram d) rfl rfl (kk := 3) rfl (by decide) (fun g1 => (asZ (.int .i64 0) rfl (asZ .niface rfl (nZ (qZ (qZ (rZ (wZ rg (o_loadBA (atL (k := 1) rfl) sz25 (by decide) ag25 rfl rfl (v := eDiagram d) rfl (wZ rg (o_call (us := [eDiagram d]) rfl (vl' vr (vn)) (diagram_Check_ctr h fun err h => (asZ (eErr 83 err) rfl (nZ (qZ (rZ (mvZ (eErr 83 err) rfl ?_))))))))))))))))))))
  refine wZ rg (o_isnon td29 (E := 83) rfl rfl rfl (nZ ?_))
  refine Vc.cond' rfl (fun hb => ?_) (fun hb => ?_)
  · replace h := h.1 hb
    refine qZ (rZ (mvZ (eErr 83 err) rfl (asZ (.int .i64 0) rfl (asZ (eErr 83 err) rfl (nZ ?_)))))
    refine Vc.ret' ?_
    refine res_tmp (v := .int .i64 0) rfl (res_tmp (v := eErr 83 err) rfl (res_nil ?_))
    show Gives _ (.tuple [.int .i64 0, eErr 83 err]) _
    exact gives_out hrg (VW.tupL (vl' vr (vl' vr (vn)))) (hQ _ _ h)
  replace h := h.2 hb
  refine Vc.skip' ?_
  refine qZ (rZ (wZ rg (o_faP td25 rfl rfl (by rw [sz23]; decide) rfl (wZ rg (o_loadB1 (atL (k := 1) rfl) sz23 ag23 rfl rfl (v := eL eDNode d.Nodes) rfl (wZ rg (o_len td23 rfl (asZ (.int .i64 (d.Nodes.length : Int)) rfl (asZ .niface rfl (nZ ?_))))))))))
  refine Vc.ret' ?_
  refine res_tmp (v := .int .i64 (d.Nodes.length : Int)) rfl (res_tmp (v := .niface) rfl (res_nil ?_))
  show Gives _ (.tuple [.int .i64 (d.Nodes.length : Int), .niface]) _
  exact gives_out hrg (VW.tupL (vl' vr (vl' vr (vn)))) (hQ _ _ h)
theorem diagram_Levels_ctr {d : GDiagram} {Q : List Int → Option Int → Prop} {S : St} {R : AV → St → Prop} (h : diagram_Levels_W d Q) (hQ : ∀ r1 r2, Q r1 r2 → R (.tuple [eL (AV.int .i64) r1, eErr 83 r2]) S) :
    Ctr Try.prog 76 [eDiagram d] S R := by
  unfold diagram_Levels_W at h
  refine enterT Try.func76 rfl Try.ntmps76 Try.results76 (by kernel_rfl) (fun rg hrg => ?_)
  refine qZ (rZ (wZ rg (o_box (v := eDiagram d) rfl rfl (kk := 3) rfl (by decide) (fun g1 => (asZ .nil rfl (asZ .niface rfl (nZ (qZ (qZ (rZ (wZ rg (o_loadBA (atL (k := 1) rfl) sz25 (by decide) ag25 rfl rfl (v := eDiagram d) rfl (wZ rg (o_call (us := [eDiagram d]) rfl (vl' vr (vn)) (diagram_Check_ctr h fun err h => (asZ (eErr 83 err) rfl (nZ (qZ (rZ (mvZ (eErr 83 err) rfl ?_))))))))))))))))))))
  refine wZ rg (o_isnon td29 (E := 83) rfl rfl rfl (nZ ?_))
  refine Vc.cond' rfl (fun hb => ?_) (fun hb => ?_)
  · replace h := h.1 hb
    refine qZ (rZ (mvZ (eErr 83 err) rfl (asZ .nil rfl (asZ (eErr 83 err) rfl (nZ ?_)))))
    refine Vc.ret' ?_
    refine res_tmp (v := .nil) rfl (res_tmp (v := eErr 83 err) rfl (res_nil ?_))
    show Gives _ (.tuple [.nil, eErr 83 err]) _
    exact gives_out hrg (VW.tupL (vl' (VW.nilL) (vl' vr (vn)))) (hQ _ _ h)
  replace h := h.2 hb
  refine Vc.skip' ?_
  refine qZ (rZ (wZ rg (o_faP td25 rfl rfl (by rw [sz22]; decide) rfl (wZ rg (o_loadB1 (atL (k := 1) rfl) sz22 ag22 rfl rfl (v := eL (AV.int .i64) d.Order) rfl (wZ rg (o_len td22 rfl (wZ rg (o_make td22 bts3 ok3 (enc := AV.int .i64) (z' := 0) zav3 (kk := 1) rfl rfl rfl h.1 (fun g2 => ?_))))))))))
  replace h := h.2
  refine asZ (.sl 1 rg 16 g2 0 (Int.toNat (d.Order.length : Int))) rfl (nZ (qZ (qZ (rZ (wZ rg (o_faP td25 rfl rfl (by rw [sz23]; decide) rfl (wZ rg (o_loadB1 (atL (k := 1) rfl) sz23 ag23 rfl rfl (v := eL eDNode d.Nodes) rfl (wZ rg (o_len td23 rfl (mvZ (.int .i64 0) rfl (nZ ?_))))))))))))
  refine Vc.blk ?_
  obtain ⟨I, μ, h0, hI⟩ := h
  refine Vc.loop' (σ := (Int × (List Int))) (fun y => I y) (fun y => μ y) (fun y => envOf [(1, .ptr rg 1 g1 0 0), (5, .sl 1 rg 16 g2 0 y.2.length), (18, eL eDNode d.Nodes), (19, .int .i64 (d.Nodes.length : Int)), (20, .int .i64 y.1)]) (fun y => stL S rg [(1, .arr 3 [eDiagram d], g1), (16, .arr 1 (List.map (AV.int .i64) y.2), g2)]) (0, (rep' (d.Order.length : Int) 0)) (canon (fc vr (fc (VW.slen (by first | rfl | omega | (simp only [go_sem] <;> omega))) (fc vr (fc vr (fc vr (fn)))))) (sc rfl (sc rfl (sn)))) h0 (fun y h => ?_)
  obtain ⟨x, out⟩ := y
  replace h := hI (x, out) h
  show Vc _ _ _ _ (envOf [(1, .ptr rg 1 g1 0 0), (5, .sl 1 rg 16 g2 0 out.length), (18, eL eDNode d.Nodes), (19, .int .i64 (d.Nodes.length : Int)), (20, .int .i64 x)]) (stL S rg [(1, .arr 3 [eDiagram d], g1), (16, .arr 1 (List.map (AV.int .i64) out), g2)])
  refine qZ (rZ (wZ rg (o_lss rfl rfl (nZ (qZ ?_)))))
  refine Vc.cond' rfl (fun hb1 => ?_) (fun hb1 => ?_)
  · replace h := h.1 hb1
    refine Vc.skip' ?_
    refine qZ ?_
    refine Vc.blk ?_
    refine qZ (rZ (wZ rg (o_idxL td23 sz134 (by decide) (fun _ => rfl) rfl rfl h.1 ?_)))
    replace h := h.2
    refine wZ rg (o_loadIA sz134 (by decide) ag134 rfl rfl (v := eDNode (at' d.Nodes x)) rfl (wZ rg (o_alloc zav134 ok134 (kk := 3) rfl (fun g3 => (wZ rg (o_storeB (atL (k := 7) rfl) sz134 (by decide) rfl (w := eDNode (at' d.Nodes x)) rfl rfl rfl (v := eDNode (at' d.Nodes x)) rfl setL (nZ (rZ (mvZ (.sl 1 rg 16 g2 0 out.length) rfl (wZ rg (o_faP td25 rfl rfl (by rw [sz22]; decide) rfl ?_)))))))))))
    refine wZ rg (o_loadB1 (atL (k := 1) rfl) sz22 ag22 rfl rfl (v := eL (AV.int .i64) d.Order) rfl (wZ rg (o_faP td134 rfl rfl (by rw [sz3]; decide) rfl (wZ rg (o_loadB1 (atL (k := 7) rfl) sz3 ag3 rfl rfl (v := .int .i64 ((at' d.Nodes x).Var)) rfl (wZ rg (o_call (us := [eL (AV.int .i64) d.Order, AV.int .i64 ((at' d.Nodes x).Var)]) rfl (vl' vr (vl' vr (vn))) (slices_Index___int_int_ctr h fun r h => ?_))))))))
    refine wZ rg (o_idxR0 td22 sz3 (by decide) rfl rfl h.1 ?_)
    have hi := h.1
    replace h := h.2
    refine wZ rg (o_loadR1 (atL (k := 16) rfl) sz3 ag3 rfl (lt_of hi (by first | rfl | omega | (simp only [go_sem] <;> omega))) rfl (v := .int .i64 (at' out r)) rfl (wZ rg (o_addG rfl rfl h.1 ?_)))
    replace h := h.2
    refine wZ rg (o_idxR0 td22 sz3 (by decide) rfl rfl h.1 ?_)
    have hi1 := h.1
    replace h := h.2
    refine wZ rg (o_storeR1 (atL (k := 16) rfl) sz3 (by decide) (x' := ((at' out r) + 1)) (fun _ => rfl) rfl rfl (lt_of hi1 (by first | rfl | omega | (simp only [go_sem] <;> omega))) rfl rfl setL (nZ (rZ (wZ rg (o_addG rfl rfl h.1 ?_)))))
    replace h := h.2
    refine mvZ (.int .i64 (x + 1)) rfl (nZ ?_)
    exact ⟨((x + 1), (set' out r ((at' out r) + 1))), (canon (fc vr (fc (VW.slen (by first | rfl | omega | (simp only [go_sem] <;> omega))) (fc vr (fc vr (fc vr (fn)))))) (sc rfl (sc rfl (sn)))), h⟩
  replace h := h.2 hb1
  refine Vc.exit' (exB_self ?_)
  refine qZ (rZ (mvZ (.sl 1 rg 16 g2 0 out.length) rfl (asZ (.sl 1 rg 16 g2 0 out.length) rfl (asZ .niface rfl (nZ ?_)))))
  refine Vc.ret' ?_
  refine res_tmp (v := .sl 1 rg 16 g2 0 out.length) rfl (res_tmp (v := .niface) rfl (res_nil ?_))
  show Gives _ (.tuple [.sl 1 rg 16 g2 0 out.length, .niface]) _
  refine gives_freeze (k := 16) (xs := List.map (AV.int .i64) out) rfl (v' := .tuple [eL (AV.int .i64) out, .niface]) (VW.tupL (vl' (frz_full rfl) (vl' vr (vn)))) ?_
  exact gives_out hrg (VW.tupL (vl' vr (vl' vr (vn)))) (hQ _ _ h)
end Go.Proofs.Ytllegjdggcmgaaa
/- Walks of functions. Conditions: none. -/
namespace Go.Proofs.Ytllegjdggcmgaaa
open Go.Gg
set_option maxRecDepth 100000
theorem ref15_value_ctr {d : GDiagram} {ref : Int} {state : Int} {Q : Bool → Prop} {S : St} {R : AV → St → Prop} (h : ref15_value_W d ref state Q) (hQ : ∀ r1, Q r1 → R (AV.bool r1) S) :
    Ctr Try.prog 151 [eDiagram d, AV.int .i64 ref, AV.int .i64 state] S R := by
  unfold ref15_value_W at h
  refine enterT Try.func151 rfl Try.ntmps151 Try.results151 (by kernel_rfl) (fun rg hrg => ?_)
  refine qZ (rZ (wZ rg (o_box (v := eDiagram d) rfl rfl (kk := 3) rfl (by decide) (fun g1 => (asZ (.bool false) rfl (nZ (qZ ?_)))))))
  refine Vc.blk ?_
  obtain ⟨I, μ, h0, hI⟩ := h
  refine Vc.loop' (σ := (Int)) (fun y => I y) (fun y => μ y) (fun y => envOf [(1, .int .i64 y), (2, .int .i64 state), (3, .ptr rg 3 g1 0 0)]) (fun y => stL S rg [(3, .arr 3 [eDiagram d], g1)]) ref (canon (fc vr (fc vr (fc vr (fn)))) (sc rfl (sn))) h0 (fun ref1 h => ?_)
  replace h := hI ref1 h
  show Vc _ _ _ _ (envOf [(1, .int .i64 ref1), (2, .int .i64 state), (3, .ptr rg 3 g1 0 0)]) (stL S rg [(3, .arr 3 [eDiagram d], g1)])
  refine qZ (qZ (rZ (mvZ (.int .i64 ref1) rfl (wZ rg (o_gtr rfl rfl (nZ ?_))))))
  refine Vc.cond' rfl (fun hb => ?_) (fun hb => ?_)
  · replace h := h.1 hb
    refine Vc.skip' ?_
    refine Vc.blk ?_
    refine qZ (rZ (wZ rg (o_faP td25 rfl rfl (by rw [sz23]; decide) rfl (wZ rg (o_loadB1 (atL (k := 3) rfl) sz23 ag23 rfl rfl (v := eL eDNode d.Nodes) rfl (mvZ (.int .i64 ref1) rfl (wZ rg (o_subG rfl rfl h.1 ?_))))))))
    replace h := h.2
    refine wZ rg (o_idxL td23 sz134 (by decide) (fun _ => rfl) rfl rfl h.1 ?_)
    replace h := h.2
    refine wZ rg (o_loadIA sz134 (by decide) ag134 rfl rfl (v := eDNode (at' d.Nodes (ref1 - 2))) rfl (wZ rg (o_alloc zav134 ok134 (kk := 3) rfl (fun g2 => (wZ rg (o_storeB (atL (k := 7) rfl) sz134 (by decide) rfl (w := eDNode (at' d.Nodes (ref1 - 2))) rfl rfl rfl (v := eDNode (at' d.Nodes (ref1 - 2))) rfl setL (nZ (qZ (rZ (wZ rg (o_faP td134 rfl rfl (by rw [sz3]; decide) rfl ?_)))))))))))
    refine wZ rg (o_loadB1 (atL (k := 7) rfl) sz3 ag3 rfl rfl (v := .int .i64 ((at' d.Nodes (ref1 - 2)).Lo)) rfl (asZ (.int .i64 ((at' d.Nodes (ref1 - 2)).Lo)) rfl (nZ (qZ (rZ (mvZ (.int .i64 state) rfl (wZ rg (o_faP td134 rfl rfl (by rw [sz3]; decide) rfl (wZ rg (o_loadB1 (atL (k := 7) rfl) sz3 ag3 rfl rfl (v := .int .i64 ((at' d.Nodes (ref1 - 2)).Var)) rfl (wZ rg (o_shr rfl rfl h.1 ?_))))))))))))
    replace h := h.2
    refine wZ rg (o_and rfl rfl (wZ rg (o_eql rfl rfl (nZ ?_))))
    refine Vc.cond' rfl (fun hb1 => ?_) (fun hb1 => ?_)
    · replace h := h.1 hb1
      refine rZ ?_
      refine wZ rg (o_faP td134 rfl rfl (by rw [sz3]; decide) rfl (wZ rg (o_loadB1 (atL (k := 7) rfl) sz3 ag3 rfl rfl (v := .int .i64 ((at' d.Nodes (ref1 - 2)).Hi)) rfl (asZ (.int .i64 ((at' d.Nodes (ref1 - 2)).Hi)) rfl (nZ ?_)))))
      exact ⟨(at' d.Nodes (ref1 - 2)).Hi, (canon (fc vr (fc vr (fc vr (fn)))) (sc rfl (sn))), h⟩
    replace h := h.2 hb1
    refine Vc.skip' ?_
    exact ⟨(at' d.Nodes (ref1 - 2)).Lo, (canon (fc vr (fc vr (fc vr (fn)))) (sc rfl (sn))), h⟩
  replace h := h.2 hb
  refine Vc.exit' (exB_self ?_)
  refine qZ (rZ (mvZ (.int .i64 ref1) rfl (wZ rg (o_eql rfl rfl (asZ (.bool (ref1 == 1)) rfl (nZ ?_))))))
  refine Vc.ret' ?_
  refine res_tmp (v := .bool (ref1 == 1)) rfl (res_nil ?_)
  show Gives _ (.bool (ref1 == 1)) _
  exact gives_out hrg (VW.refl _) (hQ _ h)
theorem ref15_Value_ctr {d : GDiagram} {state : Int} {Q : Bool → Prop} {S : St} {R : AV → St → Prop} (h : ref15_Value_W d state Q) (hQ : ∀ r1, Q r1 → R (AV.bool r1) S) :
    Ctr Try.prog 81 [eDiagram d, AV.int .i64 state] S R := by
  unfold ref15_Value_W at h
  refine enterT Try.func81 rfl Try.ntmps81 Try.results81 (by kernel_rfl) (fun rg hrg => ?_)
  refine qZ (rZ (wZ rg (o_box (v := eDiagram d) rfl rfl (kk := 3) rfl (by decide) (fun g1 => (asZ (.bool false) rfl (nZ (qZ (rZ (wZ rg (o_loadBA (atL (k := 2) rfl) sz25 (by decide) ag25 rfl rfl (v := eDiagram d) rfl (wZ rg (o_faP td25 rfl rfl (by rw [sz3]; decide) rfl (wZ rg (o_loadB1 (atL (k := 2) rfl) sz3 ag3 rfl rfl (v := .int .i64 d.Root) rfl (mvZ (.int .i64 state) rfl ?_)))))))))))))))
  refine wZ rg (o_call (us := [eDiagram d, AV.int .i64 d.Root, AV.int .i64 state]) rfl (vl' vr (vl' vr (vl' vr (vn)))) (ref15_value_ctr h fun r h => (asZ (.bool r) rfl (nZ ?_))))
  refine Vc.ret' ?_
  refine res_tmp (v := .bool r) rfl (res_nil ?_)
  show Gives _ (.bool r) _
  exact gives_out hrg (VW.refl _) (hQ _ h)
end Go.Proofs.Ytllegjdggcmgaaa
/- Walks of functions. Conditions: none. -/
namespace Go.Proofs.Ytllegjdggcmgaaa
open Go.Gg
set_option maxRecDepth 100000
theorem ref15_Support_ctr {d : GDiagram} {Q : Int → Prop} {S : St} {R : AV → St → Prop} (h : ref15_Support_W d Q) (hQ : ∀ r1, Q r1 → R (AV.int .i64 r1) S) :
    Ctr Try.prog 77 [eDiagram d] S R := by
  unfold ref15_Support_W at h
  refine enterT Try.func77 rfl Try.ntmps77 Try.results77 (by kernel_rfl) (fun rg hrg => ?_)
  refine qZ (rZ (wZ rg (o_box (v := eDiagram d) rfl rfl (kk := 3) rfl (by decide) (fun g1 => (asZ (.int .i64 0) rfl (nZ (qZ (rZ (asZ (.int .i64 0) rfl (nZ (qZ (qZ (rZ (asZ (.int .i64 0) rfl (nZ ?_)))))))))))))))
  refine Vc.blk ?_
  obtain ⟨I, μ, h0, hI⟩ := h
  refine Vc.loop' (σ := (Int × Int)) (fun y => I y) (fun y => μ y) (fun y => envOf [(1, .ptr rg 1 g1 0 0), (3, .int .i64 y.1), (4, .int .i64 y.2)]) (fun y => stL S rg [(1, .arr 3 [eDiagram d], g1)]) (0, 0) (canon (fc vr (fc vr (fc vr (fn)))) (sc rfl (sn))) h0 (fun y h => ?_)
  obtain ⟨out, i⟩ := y
  replace h := hI (out, i) h
  show Vc _ _ _ _ (envOf [(1, .ptr rg 1 g1 0 0), (3, .int .i64 out), (4, .int .i64 i)]) (stL S rg [(1, .arr 3 [eDiagram d], g1)])
  refine qZ (qZ (rZ (mvZ (.int .i64 i) rfl (wZ rg (o_faP td25 rfl rfl (by rw [sz23]; decide) rfl (wZ rg (o_loadB1 (atL (k := 1) rfl) sz23 ag23 rfl rfl (v := eL eDNode d.Nodes) rfl (wZ rg (o_len td23 rfl (wZ rg (o_lss rfl rfl (nZ ?_))))))))))))
  refine Vc.cond' rfl (fun hb => ?_) (fun hb => ?_)
  · replace h := h.1 hb
    refine Vc.skip' ?_
    refine qZ ?_
    refine Vc.blk ?_
    refine rZ ?_
    refine mvZ (.int .i64 out) rfl (wZ rg (o_faP td25 rfl rfl (by rw [sz23]; decide) rfl (wZ rg (o_loadB1 (atL (k := 1) rfl) sz23 ag23 rfl rfl (v := eL eDNode d.Nodes) rfl (mvZ (.int .i64 i) rfl (wZ rg (o_idxL td23 sz134 (by decide) (fun _ => rfl) rfl rfl h.1 ?_)))))))
    replace h := h.2
    refine wZ rg (o_fa td134 rfl rfl (by rw [sz3]; decide) rfl rfl (wZ rg (o_loadI1 sz3 ag3 rfl rfl (v := .int .i64 ((at' d.Nodes i).Var)) rfl (wZ rg (o_shlG rfl rfl h.1 ?_)))))
    replace h := h.2
    refine wZ rg (o_or rfl rfl ?_)
    obtain ⟨out1, hs⟩ : ∃ qz : Int, qz = (bits .or .i64 out (1 * 2 ^ (Int.toNat ((at' d.Nodes i).Var)))) := ⟨_, rfl⟩
    replace h := h out1 hs
    refine wZ rg (o_assign (v := .int .i64 out1) (by subst hs; rfl) (nZ (rZ (mvZ (.int .i64 i) rfl (wZ rg (o_addG rfl rfl h.1 ?_))))))
    replace h := h.2
    refine asZ (.int .i64 (i + 1)) rfl (nZ ?_)
    exact ⟨(out1, (i + 1)), (canon (fc vr (fc vr (fc vr (fn)))) (sc rfl (sn))), h⟩
  replace h := h.2 hb
  refine Vc.exit' (exB_self ?_)
  refine qZ (rZ (mvZ (.int .i64 out) rfl (asZ (.int .i64 out) rfl (nZ ?_))))
  refine Vc.ret' ?_
  refine res_tmp (v := .int .i64 out) rfl (res_nil ?_)
  show Gives _ (.int .i64 out) _
  exact gives_out hrg (VW.refl _) (hQ _ h)
theorem ref15_Levels_ctr {d : GDiagram} {Q : List Int → Prop} {S : St} {R : AV → St → Prop} (h : ref15_Levels_W d Q) (hQ : ∀ r1, Q r1 → R (eL (AV.int .i64) r1) S) :
    Ctr Try.prog 79 [eDiagram d] S R := by
  unfold ref15_Levels_W at h
  refine enterT Try.func79 rfl Try.ntmps79 Try.results79 (by kernel_rfl) (fun rg hrg => ?_)
  refine qZ (rZ (wZ rg (o_box (v := eDiagram d) rfl rfl (kk := 3) rfl (by decide) (fun g1 => (asZ .nil rfl (nZ (qZ (rZ (wZ rg (o_faP td25 rfl rfl (by rw [sz22]; decide) rfl (wZ rg (o_loadB1 (atL (k := 1) rfl) sz22 ag22 rfl rfl (v := eL (AV.int .i64) d.Order) rfl (wZ rg (o_len td22 rfl (wZ rg (o_make td22 bts3 ok3 (enc := AV.int .i64) (z' := 0) zav3 (kk := 1) rfl rfl rfl h.1 (fun g2 => ?_)))))))))))))))))
  replace h := h.2
  refine asZ (.sl 1 rg 8 g2 0 (Int.toNat (d.Order.length : Int))) rfl (nZ (qZ (qZ (rZ (asZ (.int .i64 0) rfl (nZ ?_))))))
  refine Vc.blk ?_
  obtain ⟨I, μ, h0, hI⟩ := h
  refine Vc.loop' (σ := (Int × (List Int))) (fun y => I y) (fun y => μ y) (fun y => envOf [(1, .ptr rg 1 g1 0 0), (3, .sl 1 rg 8 g2 0 y.2.length), (4, .int .i64 y.1)]) (fun y => stL S rg [(1, .arr 3 [eDiagram d], g1), (8, .arr 1 (List.map (AV.int .i64) y.2), g2)]) (0, (rep' (d.Order.length : Int) 0)) (canon (fc vr (fc (VW.slen (by first | rfl | omega | (simp only [go_sem] <;> omega))) (fc vr (fn)))) (sc rfl (sc rfl (sn)))) h0 (fun y h => ?_)
  obtain ⟨i, out⟩ := y
  replace h := hI (i, out) h
  show Vc _ _ _ _ (envOf [(1, .ptr rg 1 g1 0 0), (3, .sl 1 rg 8 g2 0 out.length), (4, .int .i64 i)]) (stL S rg [(1, .arr 3 [eDiagram d], g1), (8, .arr 1 (List.map (AV.int .i64) out), g2)])
  refine qZ (qZ (rZ (mvZ (.int .i64 i) rfl (wZ rg (o_faP td25 rfl rfl (by rw [sz23]; decide) rfl (wZ rg (o_loadB1 (atL (k := 1) rfl) sz23 ag23 rfl rfl (v := eL eDNode d.Nodes) rfl (wZ rg (o_len td23 rfl (wZ rg (o_lss rfl rfl (nZ ?_))))))))))))
  refine Vc.cond' rfl (fun hb => ?_) (fun hb => ?_)
  · replace h := h.1 hb
    refine Vc.skip' ?_
    refine qZ ?_
    refine Vc.blk ?_
    have hg := h.1
    replace h := h.2
    obtain ⟨r, hc, h⟩ := h
    have hi := h.1
    replace h := h.2
    have hg1 := h.1
    replace h := h.2
    have hi1 := h.1
    replace h := h.2
    refine Vc.drawn' mixed rg (usOf [(9, pc (.int .i64 r))]) (by kernel_rfl) ?_
    refine dP rfl rfl (o_move (v := .sl 1 rg 8 g2 0 out.length) rfl (dP rfl rfl (o_faP td25 rfl rfl (by rw [sz22]; decide) rfl (dL (E := ([(rg, 1)], [])) rfl rfl (by simp) (cfn) (o_loadB1 (atL (k := 1) rfl) sz22 ag22 rfl rfl (v := eL (AV.int .i64) d.Order) rfl (dP rfl rfl (o_faP td25 rfl rfl (by rw [sz23]; decide) rfl ?_)))))))
    refine dL (E := ([(rg, 1)], [])) rfl rfl (by simp) (cfa (by simp [apartE]) (cfn)) (o_loadB1 (atL (k := 1) rfl) sz23 ag23 rfl rfl (v := eL eDNode d.Nodes) rfl (dP rfl rfl (o_move (v := .int .i64 i) rfl (dP rfl rfl (o_idxL td23 sz134 (by decide) (fun _ => rfl) rfl rfl hg (dP rfl rfl (o_fa td134 rfl rfl (by rw [sz3]; decide) rfl rfl ?_)))))))
    refine dP rfl rfl (o_loadI1 sz3 ag3 rfl rfl (v := .int .i64 ((at' d.Nodes i).Var)) rfl ?_)
    refine dC (vs := [eL (AV.int .i64) d.Order, AV.int .i64 ((at' d.Nodes i).Var)]) rfl (vl' vr (vl' vr (vn))) (fun _ => ref14_Place_ctr hc (fun _ hr => ⟨by rw [hr], rfl⟩)) rfl ?_
    refine dP rfl rfl (o_idxR0 td22 sz3 (by decide) rfl rfl hi (dL (E := ([(rg, 8)], [])) rfl rfl (by simp) (cfo (by kernel_rfl) (cfo (by kernel_rfl) (cfn))) (o_loadR1 (atL (k := 8) rfl) sz3 ag3 rfl (lt_of hi (by first | rfl | omega | (simp only [go_sem] <;> omega))) rfl (v := .int .i64 (at' out r)) rfl (dP rfl rfl (o_addG rfl rfl hg1 (dP rfl rfl (o_idxR0 td22 sz3 (by decide) rfl rfl hi1 ?_)))))))
    refine dL (E := ([], [(rg, 8)])) rfl rfl (by simp) (cfo (by kernel_rfl) (cfo (by kernel_rfl) (cfo (by kernel_rfl) (cfn)))) (o_storeR1 (atL (k := 8) rfl) sz3 (by decide) (x' := ((at' out r) + 1)) (fun _ => rfl) rfl rfl (lt_of hi1 (by first | rfl | omega | (simp only [go_sem] <;> omega))) rfl rfl setL (dN (rZ (mvZ (.int .i64 i) rfl (wZ rg (o_addG rfl rfl h.1 ?_))))))
    replace h := h.2
    refine asZ (.int .i64 (i + 1)) rfl (nZ ?_)
    exact ⟨((i + 1), (set' out r ((at' out r) + 1))), (canon (fc vr (fc (VW.slen (by first | rfl | omega | (simp only [go_sem] <;> omega))) (fc vr (fn)))) (sc rfl (sc rfl (sn)))), h⟩
  replace h := h.2 hb
  refine Vc.exit' (exB_self ?_)
  refine qZ (rZ (mvZ (.sl 1 rg 8 g2 0 out.length) rfl (asZ (.sl 1 rg 8 g2 0 out.length) rfl (nZ ?_))))
  refine Vc.ret' ?_
  refine res_tmp (v := .sl 1 rg 8 g2 0 out.length) rfl (res_nil ?_)
  show Gives _ (.sl 1 rg 8 g2 0 out.length) _
  refine gives_freeze (k := 8) (xs := List.map (AV.int .i64) out) rfl (v' := eL (AV.int .i64) out) (frz_full rfl) ?_
  exact gives_out hrg (VW.refl _) (hQ _ h)
end Go.Proofs.Ytllegjdggcmgaaa
