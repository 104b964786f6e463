/- Walks of functions. Conditions: none. -/
import Derived.Test.YtllegjdggcmgaaaWa
import Derived.Test.YtllegjdggcmgaaaGgTy
import Derived.Test.YtllegjdggcmgaaaGd
/- Walks of functions. Conditions: none. -/
namespace Go.Proofs.Ytllegjdggcmgaaa
open Go.Gg
set_option maxRecDepth 100000
theorem ref15_value_ctr {d : GDiagram} {ref : Int} {state : Int} {Q : Bool → Prop} {S : St} {R : AV → St → Prop} (h : ref15_value_W d ref state Q) (hQ : ∀ r1, Q r1 → R (AV.bool r1) S) :
    Ctr Try.prog 151 [eDiagram d, AV.int .i64 ref, AV.int .i64 state] S R := by
  unfold ref15_value_W at h
  refine enterT Try.func151 rfl Try.ntmps151 Try.results151 (by kernel_rfl) (fun rg hrg => ?_)
  refine qZ (rZ (wZ rg (o_box (v := eDiagram d) rfl rfl (kk := 3) rfl (by decide) (fun g1 => (asZ (.bool false) rfl (nZ (qZ ?_)))))))
  refine Vc.blk ?_
  obtain ⟨I, μ, h0, hI⟩ := h
  refine Vc.loop' (σ := (Int)) (fun y => I y) (fun y => μ y) (fun y => envOf [(1, .int .i64 y), (2, .int .i64 state), (3, .ptr rg 3 g1 0 0)]) (fun y => stL S rg [(3, .arr 3 [eDiagram d], g1)]) ref (canon (fc vr (fc vr (fc vr (fn)))) (sc rfl (sn))) h0 (fun ref1 h => ?_)
  replace h := hI ref1 h
  show Vc _ _ _ _ (envOf [(1, .int .i64 ref1), (2, .int .i64 state), (3, .ptr rg 3 g1 0 0)]) (stL S rg [(3, .arr 3 [eDiagram d], g1)])
  refine qZ (qZ (rZ (mvZ (.int .i64 ref1) rfl (wZ rg (o_gtr rfl rfl (nZ ?_))))))
  refine Vc.cond' rfl (fun hb => ?_) (fun hb => ?_)
  · replace h := h.1 hb
    refine Vc.skip' ?_
    refine Vc.blk ?_
    refine qZ (rZ (wZ rg (o_faP td25 rfl rfl (by rw [sz23]; decide) rfl (wZ rg (o_loadB1 (atL (k := 3) rfl) sz23 ag23 rfl rfl (v := eL eDNode d.Nodes) rfl (mvZ (.int .i64 ref1) rfl (wZ rg (o_subG rfl rfl h.1 ?_))))))))
    replace h := h.2
    refine wZ rg (o_idxL td23 sz134 (by decide) (fun _ => rfl) rfl rfl h.1 ?_)
    replace h := h.2
    refine wZ rg (o_loadIA sz134 (by decide) ag134 rfl rfl (v := eDNode (at' d.Nodes (ref1 - 2))) rfl (wZ rg (o_alloc zav134 ok134 (kk := 3) rfl (fun g2 => (wZ rg (o_storeB (atL (k := 7) rfl) sz134 (by decide) rfl (w := eDNode (at' d.Nodes (ref1 - 2))) rfl rfl rfl (v := eDNode (at' d.Nodes (ref1 - 2))) rfl setL (nZ (qZ (rZ (wZ rg (o_faP td134 rfl rfl (by rw [sz3]; decide) rfl ?_)))))))))))
    refine wZ rg (o_loadB1 (atL (k := 7) rfl) sz3 ag3 rfl rfl (v := .int .i64 ((at' d.Nodes (ref1 - 2)).Lo)) rfl (asZ (.int .i64 ((at' d.Nodes (ref1 - 2)).Lo)) rfl (nZ (qZ (rZ (mvZ (.int .i64 state) rfl (wZ rg (o_faP td134 rfl rfl (by rw [sz3]; decide) rfl (wZ rg (o_loadB1 (atL (k := 7) rfl) sz3 ag3 rfl rfl (v := .int .i64 ((at' d.Nodes (ref1 - 2)).Var)) rfl (wZ rg (o_shr rfl rfl h.1 ?_))))))))))))
    replace h := h.2
    refine wZ rg (o_and rfl rfl (wZ rg (o_eql rfl rfl (nZ ?_))))
    refine Vc.cond' rfl (fun hb1 => ?_) (fun hb1 => ?_)
    · replace h := h.1 hb1
      refine rZ ?_
      refine wZ rg (o_faP td134 rfl rfl (by rw [sz3]; decide) rfl (wZ rg (o_loadB1 (atL (k := 7) rfl) sz3 ag3 rfl rfl (v := .int .i64 ((at' d.Nodes (ref1 - 2)).Hi)) rfl (asZ (.int .i64 ((at' d.Nodes (ref1 - 2)).Hi)) rfl (nZ ?_)))))
      exact ⟨(at' d.Nodes (ref1 - 2)).Hi, (canon (fc vr (fc vr (fc vr (fn)))) (sc rfl (sn))), h⟩
    replace h := h.2 hb1
    refine Vc.skip' ?_
    exact ⟨(at' d.Nodes (ref1 - 2)).Lo, (canon (fc vr (fc vr (fc vr (fn)))) (sc rfl (sn))), h⟩
  replace h := h.2 hb
  refine Vc.exit' (exB_self ?_)
  refine qZ (rZ (mvZ (.int .i64 ref1) rfl (wZ rg (o_eql rfl rfl (asZ (.bool (ref1 == 1)) rfl (nZ ?_))))))
  refine Vc.ret' ?_
  refine res_tmp (v := .bool (ref1 == 1)) rfl (res_nil ?_)
  show Gives _ (.bool (ref1 == 1)) _
  exact gives_out hrg (VW.refl _) (hQ _ h)
theorem ref15_Value_ctr {d : GDiagram} {state : Int} {Q : Bool → Prop} {S : St} {R : AV → St → Prop} (h : ref15_Value_W d state Q) (hQ : ∀ r1, Q r1 → R (AV.bool r1) S) :
    Ctr Try.prog 81 [eDiagram d, AV.int .i64 state] S R := by
  unfold ref15_Value_W at h
  refine enterT Try.func81 rfl Try.ntmps81 Try.results81 (by kernel_rfl) (fun rg hrg => ?_)
  refine qZ (rZ (wZ rg (o_box (v := eDiagram d) rfl rfl (kk := 3) rfl (by decide) (fun g1 => (asZ (.bool false) rfl (nZ (qZ (rZ (wZ rg (o_loadBA (atL (k := 2) rfl) sz25 (by decide) ag25 rfl rfl (v := eDiagram d) rfl (wZ rg (o_faP td25 rfl rfl (by rw [sz3]; decide) rfl (wZ rg (o_loadB1 (atL (k := 2) rfl) sz3 ag3 rfl rfl (v := .int .i64 d.Root) rfl (mvZ (.int .i64 state) rfl ?_)))))))))))))))
  refine wZ rg (o_call (us := [eDiagram d, AV.int .i64 d.Root, AV.int .i64 state]) rfl (vl' vr (vl' vr (vl' vr (vn)))) (ref15_value_ctr h fun r h => (asZ (.bool r) rfl (nZ ?_))))
  refine Vc.ret' ?_
  refine res_tmp (v := .bool r) rfl (res_nil ?_)
  show Gives _ (.bool r) _
  exact gives_out hrg (VW.refl _) (hQ _ h)
end Go.Proofs.Ytllegjdggcmgaaa
/- Walks of functions. Conditions: none. -/
namespace Go.Proofs.Ytllegjdggcmgaaa
open Go.Gg
set_option maxRecDepth 100000
theorem ref15_Table_ctr {d : GDiagram} {Q : List Bool → Prop} {S : St} {R : AV → St → Prop} (h : ref15_Table_W d Q) (hQ : ∀ r1, Q r1 → R (eL AV.bool r1) S) :
    Ctr Try.prog 129 [eDiagram d] S R := by
  unfold ref15_Table_W at h
  refine enterT Try.func129 rfl Try.ntmps129 Try.results129 (by kernel_rfl) (fun rg hrg => ?_)
  refine qZ (rZ (wZ rg (o_box (v := eDiagram d) rfl rfl (kk := 3) rfl (by decide) (fun g1 => (asZ .nil rfl (nZ (qZ (rZ (asZ .nil rfl (nZ (qZ (qZ (rZ (asZ (.int .i64 0) rfl (nZ ?_)))))))))))))))
  refine Vc.blk ?_
  refine Vc.mat 3 18 1 rfl (by decide) (fun g2 => ?_)
  obtain ⟨I, μ, h0, hI⟩ := h
  refine Vc.loop' (σ := ((Int × (List Bool)) × (Nat))) (fun y => I y.1) (fun y => μ y.1) (fun y => envOf [(1, .ptr rg 1 g1 0 0), (3, .sl 1 rg 18 y.2 0 y.1.2.length), (4, .int .i64 y.1.1)]) (fun y => stL S rg [(1, .arr 3 [eDiagram d], g1), (18, .arr 1 (List.map AV.bool y.1.2), y.2)]) ((0, []), g2) (canon (fc vr (fc (VW.slen (by first | rfl | omega | (simp only [go_sem] <;> omega))) (fc vr (fn)))) (sc rfl (sc rfl (sn)))) h0 (fun y h => ?_)
  obtain ⟨⟨s, out⟩, g3⟩ := y
  replace h := hI (s, out) h
  show Vc _ _ _ _ (envOf [(1, .ptr rg 1 g1 0 0), (3, .sl 1 rg 18 g3 0 out.length), (4, .int .i64 s)]) (stL S rg [(1, .arr 3 [eDiagram d], g1), (18, .arr 1 (List.map AV.bool out), g3)])
  refine qZ (qZ (rZ (mvZ (.int .i64 s) rfl (wZ rg (o_faP td25 rfl rfl (by rw [sz22]; decide) rfl (wZ rg (o_loadB1 (atL (k := 1) rfl) sz22 ag22 rfl rfl (v := eL (AV.int .i64) d.Order) rfl (wZ rg (o_len td22 rfl (wZ rg (o_shlG rfl rfl h.1 ?_)))))))))))
  replace h := h.2
  refine wZ rg (o_lss rfl rfl (nZ ?_))
  refine Vc.cond' rfl (fun hb => ?_) (fun hb => ?_)
  · replace h := h.1 hb
    refine Vc.skip' ?_
    refine qZ ?_
    refine Vc.blk ?_
    refine rZ ?_
    refine mvZ (.sl 1 rg 18 g3 0 out.length) rfl (wZ rg (o_loadBA (atL (k := 1) rfl) sz25 (by decide) ag25 rfl rfl (v := eDiagram d) rfl (mvZ (.int .i64 s) rfl (wZ rg (o_call (us := [eDiagram d, AV.int .i64 s]) rfl (vl' vr (vl' vr (vn))) (ref15_Value_ctr h fun r h => (wZ rg (o_bslice td139 ok4 zav4 (es := [.bool r]) rfl (kk := 1) rfl rfl rfl rfl rfl rfl (fun g4 => ?_)))))))))
    refine wZ rg (o_appR td139 bts4 ok4 zav4 (es := out) (xs := [r]) (enc := AV.bool) (atL (k := 18) rfl) (by first | rfl | omega | (simp only [go_sem] <;> omega)) (view_rowE (atL (k := 17) rfl) (by first | rfl | omega | (simp only [go_sem] <;> omega))) (kk := 1) rfl rfl (fun _ => rfl) (fun _ => rfl) h.1 rfl (fun _ => setL) (fun g5 => ?_))
    replace h := h.2
    refine asZ (.sl 1 rg 18 g5 0 ((out ++ [r]).length)) rfl (nZ (rZ (mvZ (.int .i64 s) rfl (wZ rg (o_addG rfl rfl h.1 ?_)))))
    replace h := h.2
    refine asZ (.int .i64 (s + 1)) rfl (nZ ?_)
    exact ⟨(((s + 1), (out ++ [r])), g5), (canon (fc vr (fc vr (fc vr (fn)))) (sc rfl (sc rfl (sn)))), h⟩
  replace h := h.2 hb
  refine Vc.exit' (exB_self ?_)
  refine qZ (rZ (mvZ (.sl 1 rg 18 g3 0 out.length) rfl (asZ (.sl 1 rg 18 g3 0 out.length) rfl (nZ ?_))))
  refine Vc.ret' ?_
  refine res_tmp (v := .sl 1 rg 18 g3 0 out.length) rfl (res_nil ?_)
  show Gives _ (.sl 1 rg 18 g3 0 out.length) _
  refine gives_freeze (k := 18) (xs := List.map AV.bool out) rfl (v' := eL AV.bool out) (frz_full rfl) ?_
  exact gives_out hrg (VW.refl _) (hQ _ h)
theorem ref15_Table_ctrO {d : GDiagram} (q k : Nat) {Q : List Bool → Prop} {S : St} {R : AV → St → Prop} (h : ref15_Table_W d Q) (hQ : ∀ l g, Q l → R (.sl 1 q k g 0 l.length) (S.set q k (.arr 1 (List.map AV.bool l)) g)) :
    Ctr Try.prog 129 [eDiagram d] S R := by
  unfold ref15_Table_W at h
  refine enterT Try.func129 rfl Try.ntmps129 Try.results129 (by kernel_rfl) (fun rg hrg => ?_)
  refine qZ (rZ (wZ rg (o_box (v := eDiagram d) rfl rfl (kk := 3) rfl (by decide) (fun g1 => (asZ .nil rfl (nZ (qZ (rZ (asZ .nil rfl (nZ (qZ (qZ (rZ (asZ (.int .i64 0) rfl (nZ ?_)))))))))))))))
  refine Vc.blk ?_
  refine Vc.mat 3 18 1 rfl (by decide) (fun g2 => ?_)
  obtain ⟨I, μ, h0, hI⟩ := h
  refine Vc.loop' (σ := ((Int × (List Bool)) × (Nat))) (fun y => I y.1) (fun y => μ y.1) (fun y => envOf [(1, .ptr rg 1 g1 0 0), (3, .sl 1 rg 18 y.2 0 y.1.2.length), (4, .int .i64 y.1.1)]) (fun y => stL S rg [(1, .arr 3 [eDiagram d], g1), (18, .arr 1 (List.map AV.bool y.1.2), y.2)]) ((0, []), g2) (canon (fc vr (fc (VW.slen (by first | rfl | omega | (simp only [go_sem] <;> omega))) (fc vr (fn)))) (sc rfl (sc rfl (sn)))) h0 (fun y h => ?_)
  obtain ⟨⟨s, out⟩, g3⟩ := y
  replace h := hI (s, out) h
  show Vc _ _ _ _ (envOf [(1, .ptr rg 1 g1 0 0), (3, .sl 1 rg 18 g3 0 out.length), (4, .int .i64 s)]) (stL S rg [(1, .arr 3 [eDiagram d], g1), (18, .arr 1 (List.map AV.bool out), g3)])
  refine qZ (qZ (rZ (mvZ (.int .i64 s) rfl (wZ rg (o_faP td25 rfl rfl (by rw [sz22]; decide) rfl (wZ rg (o_loadB1 (atL (k := 1) rfl) sz22 ag22 rfl rfl (v := eL (AV.int .i64) d.Order) rfl (wZ rg (o_len td22 rfl (wZ rg (o_shlG rfl rfl h.1 ?_)))))))))))
  replace h := h.2
  refine wZ rg (o_lss rfl rfl (nZ ?_))
  refine Vc.cond' rfl (fun hb => ?_) (fun hb => ?_)
  · replace h := h.1 hb
    refine Vc.skip' ?_
    refine qZ ?_
    refine Vc.blk ?_
    refine rZ ?_
    refine mvZ (.sl 1 rg 18 g3 0 out.length) rfl (wZ rg (o_loadBA (atL (k := 1) rfl) sz25 (by decide) ag25 rfl rfl (v := eDiagram d) rfl (mvZ (.int .i64 s) rfl (wZ rg (o_call (us := [eDiagram d, AV.int .i64 s]) rfl (vl' vr (vl' vr (vn))) (ref15_Value_ctr h fun r h => (wZ rg (o_bslice td139 ok4 zav4 (es := [.bool r]) rfl (kk := 1) rfl rfl rfl rfl rfl rfl (fun g4 => ?_)))))))))
    refine wZ rg (o_appR td139 bts4 ok4 zav4 (es := out) (xs := [r]) (enc := AV.bool) (atL (k := 18) rfl) (by first | rfl | omega | (simp only [go_sem] <;> omega)) (view_rowE (atL (k := 17) rfl) (by first | rfl | omega | (simp only [go_sem] <;> omega))) (kk := 1) rfl rfl (fun _ => rfl) (fun _ => rfl) h.1 rfl (fun _ => setL) (fun g5 => ?_))
    replace h := h.2
    refine asZ (.sl 1 rg 18 g5 0 ((out ++ [r]).length)) rfl (nZ (rZ (mvZ (.int .i64 s) rfl (wZ rg (o_addG rfl rfl h.1 ?_)))))
    replace h := h.2
    refine asZ (.int .i64 (s + 1)) rfl (nZ ?_)
    exact ⟨(((s + 1), (out ++ [r])), g5), (canon (fc vr (fc vr (fc vr (fn)))) (sc rfl (sc rfl (sn)))), h⟩
  replace h := h.2 hb
  refine Vc.exit' (exB_self ?_)
  refine qZ (rZ (mvZ (.sl 1 rg 18 g3 0 out.length) rfl (asZ (.sl 1 rg 18 g3 0 out.length) rfl (nZ ?_))))
  refine Vc.ret' ?_
  refine res_tmp (v := .sl 1 rg 18 g3 0 out.length) rfl (res_nil ?_)
  show Gives _ (.sl 1 rg 18 g3 0 out.length) _
  exact gives_own q k hrg rfl (fun g' => hQ _ g' h)
end Go.Proofs.Ytllegjdggcmgaaa
/- Walks of functions. Conditions: none. -/
namespace Go.Proofs.Ytllegjdggcmgaaa
open Go.Gg
set_option maxRecDepth 100000
theorem ref15_add__e_ctr {fu : Nat} : ∀ {Order : List Int} {Root : Int} {table : List Bool} {level : Int} {state : Int} {u : List GDNode} {q0 k0 g0 : Nat} (_hdk : DK [(q0, k0)]) {Q : List GDNode → List Int → Int → Int → Prop} {S : St} {R : AV → St → Prop} (_h : ref15_add__e_W fu Order Root table level state u Q) (_hQ : ∀ r1 r2 r3 r4, ∀ h0, Q r1 r2 r3 r4 → R (.tuple [.agg [eL (AV.int .i64) r2, .sl 3 q0 k0 h0 0 r1.length, .int .i64 r3], AV.int .i64 r4]) (stX S [(q0, k0, .arr 3 (List.map eDNode r1), h0)])),
    Ctr Try.prog 188 [.agg [eL (AV.int .i64) Order, .sl 3 q0 k0 g0 0 u.length, .int .i64 Root], eL AV.bool table, AV.int .i64 level, AV.int .i64 state] (stX S [(q0, k0, .arr 3 (List.map eDNode u), g0)]) R := by
  induction fu with
  | zero =>
    intro Order Root table level state u q0 k0 g0 hdk Q S R h hQ
    exact False.elim h
  | succ fu ih =>
  intro Order Root table level state u q0 k0 g0 hdk Q S R h hQ
  rw [ref15_add__e_W] at h
  refine enterT Try.func188 rfl Try.ntmps188 Try.results188 (by kernel_rfl) (fun rg hrg => ?_)
  have hdx : DX [(q0, k0, .arr 3 (List.map eDNode u), g0)] := hdk
  have hfr := fun X' e => fresh_set (S := S) (rg := rg) (X := [(q0, k0, .arr 3 (List.map eDNode u), g0)]) (X' := X') e hrg
  have hne0 := fresh_ne hdx hrg 0 rfl
  refine qZ (rZ (wZ rg (o_box (v := .agg [eL (AV.int .i64) Order, .sl 3 q0 k0 g0 0 u.length, .int .i64 Root]) rfl rfl (kk := 3) rfl (by decide) (fun g1 => (wZ rg (o_alloc zav25 ok25 (kk := 3) rfl (fun g2 => (asZ (.int .i64 0) rfl (nZ (qZ (qZ (rZ (mvZ (.int .i64 level) rfl (wZ rg (o_faP td25 rfl rfl (by rw [sz22]; decide) rfl ?_)))))))))))))))
  refine wZ rg (o_loadB1 (atL (k := 4) rfl) sz22 ag22 rfl rfl (v := eL (AV.int .i64) Order) rfl (wZ rg (o_len td22 rfl (wZ rg (o_eql rfl rfl (nZ ?_))))))
  refine Vc.cond' rfl (fun hb => ?_) (fun hb => ?_)
  · replace h := h.1 hb
    refine qZ (qZ (rZ (mvZ (eL AV.bool table) rfl (mvZ (.int .i64 state) rfl (wZ rg (o_idxL td139 sz4 (by decide) (fun _ => rfl) rfl rfl h.1 ?_))))))
    replace h := h.2
    refine wZ rg (o_loadI1 sz4 ag4 rfl rfl (v := .bool (at' table state)) rfl (nZ ?_))
    refine Vc.cond' rfl (fun hb1 => ?_) (fun hb1 => ?_)
    · replace h := h.1 hb1
      refine qZ (rZ (wZ rg (o_loadBA (atL (k := 4) rfl) sz25 (by decide) ag25 rfl rfl (v := .agg [eL (AV.int .i64) Order, .sl 3 q0 k0 g0 0 u.length, .int .i64 Root]) rfl (wZ rg (o_storeB (atL (k := 8) rfl) sz25 (by decide) rfl (w := .agg [eL (AV.int .i64) Order, .sl 3 q0 k0 g0 0 u.length, .int .i64 Root]) rfl rfl rfl (v := .agg [eL (AV.int .i64) Order, .sl 3 q0 k0 g0 0 u.length, .int .i64 Root]) rfl setL ?_)))))
      refine asZ (.int .i64 1) rfl (nZ ?_)
      refine Vc.ret' ?_
      refine res_cellA (atL (k := 8) rfl) sz25 (by decide) ag25 rfl rfl (v := .agg [eL (AV.int .i64) Order, .sl 3 q0 k0 g0 0 u.length, .int .i64 Root]) rfl (res_tmp (v := .int .i64 1) rfl (res_nil ?_))
      show Gives _ (.tuple [.agg [eL (AV.int .i64) Order, .sl 3 q0 k0 g0 0 u.length, .int .i64 Root], .int .i64 1]) _
      exact gives_out (hfr _ rfl) (VW.tupL (vl' vr (vl' vr (vn)))) (hQ _ _ _ _ _ h)
    replace h := h.2 hb1
    refine Vc.skip' ?_
    refine qZ (rZ (wZ rg (o_loadBA (atL (k := 4) rfl) sz25 (by decide) ag25 rfl rfl (v := .agg [eL (AV.int .i64) Order, .sl 3 q0 k0 g0 0 u.length, .int .i64 Root]) rfl (wZ rg (o_storeB (atL (k := 8) rfl) sz25 (by decide) rfl (w := .agg [eL (AV.int .i64) Order, .sl 3 q0 k0 g0 0 u.length, .int .i64 Root]) rfl rfl rfl (v := .agg [eL (AV.int .i64) Order, .sl 3 q0 k0 g0 0 u.length, .int .i64 Root]) rfl setL ?_)))))
    refine asZ (.int .i64 0) rfl (nZ ?_)
    refine Vc.ret' ?_
    refine res_cellA (atL (k := 8) rfl) sz25 (by decide) ag25 rfl rfl (v := .agg [eL (AV.int .i64) Order, .sl 3 q0 k0 g0 0 u.length, .int .i64 Root]) rfl (res_tmp (v := .int .i64 0) rfl (res_nil ?_))
    show Gives _ (.tuple [.agg [eL (AV.int .i64) Order, .sl 3 q0 k0 g0 0 u.length, .int .i64 Root], .int .i64 0]) _
    exact gives_out (hfr _ rfl) (VW.tupL (vl' vr (vl' vr (vn)))) (hQ _ _ _ _ _ h)
  replace h := h.2 hb
  refine Vc.skip' ?_
  refine qZ (rZ (wZ rg (o_loadBA (atL (k := 4) rfl) sz25 (by decide) ag25 rfl rfl (v := .agg [eL (AV.int .i64) Order, .sl 3 q0 k0 g0 0 u.length, .int .i64 Root]) rfl (mvZ (eL AV.bool table) rfl (mvZ (.int .i64 level) rfl (wZ rg (o_addG rfl rfl h.1 ?_)))))))
  replace h := h.2
  refine mvZ (.int .i64 state) rfl (wZ rg (o_call (us := [.agg [eL (AV.int .i64) Order, .sl 3 q0 k0 g0 0 u.length, .int .i64 Root], eL AV.bool table, AV.int .i64 (level + 1), AV.int .i64 state]) rfl (vl' vr (vl' vr (vl' vr (vl' vr (vn))))) (ctrX (sx_c (atX hne0 hdx 0 rfl) (sx_n)) (ih (dk_c (ni_n) (dk_n)) h fun u1 r r1 r2 g3 h => ?_))))
  refine Wl.eqS (sy_c (sx_n) (setX hne0 hdx 0 rfl rfl)) ?_
  refine mvZ (.tuple [.agg [eL (AV.int .i64) r, .sl 3 q0 k0 g3 0 u1.length, .int .i64 r1], .int .i64 r2]) rfl (wZ rg (o_extract (v := .agg [eL (AV.int .i64) r, .sl 3 q0 k0 g3 0 u1.length, .int .i64 r1]) rfl rfl rfl (wZ rg (o_extract (v := .int .i64 r2) rfl rfl rfl ?_))))
  refine wZ rg (o_storeB (atL (k := 4) rfl) sz25 (by decide) rfl (w := .agg [eL (AV.int .i64) r, .sl 3 q0 k0 g3 0 u1.length, .int .i64 r1]) rfl rfl rfl (v := .agg [eL (AV.int .i64) r, .sl 3 q0 k0 g3 0 u1.length, .int .i64 r1]) rfl setL (asZ (.int .i64 r2) rfl (nZ (qZ ?_))))
  have hg := h.1
  replace h := h.2
  have hg1 := h.1
  replace h := h.2
  have hg2 := h.1
  replace h := h.2
  obtain ⟨u2, r3, r4, r5, hc, h⟩ := h
  refine Vc.drawn' mixed rg (usOf [(12, wc (fun gm => .tuple [.agg [eL (AV.int .i64) r3, .sl 3 q0 k0 (gm 0) 0 u2.length, .int .i64 r4], .int .i64 r5]) [] [(q0, k0)] (fun gm => [(q0, k0, .arr 3 (List.map eDNode u2), (gm 0))]))]) (by kernel_rfl) ?_
  refine dL (E := ([(rg, 4)], [])) rfl rfl (by simp) (cfn) (o_loadBA (atL (k := 4) rfl) sz25 (by decide) ag25 rfl rfl (v := .agg [eL (AV.int .i64) r, .sl 3 q0 k0 g3 0 u1.length, .int .i64 r1]) rfl (dP rfl rfl (o_move (v := eL AV.bool table) rfl (dP rfl rfl (o_move (v := .int .i64 level) rfl (dP rfl rfl (o_addG rfl rfl hg (dP rfl rfl (o_move (v := .int .i64 state) rfl ?_)))))))))
  refine dP rfl rfl (o_faP td25 rfl rfl (by rw [sz22]; decide) rfl (dL (E := ([(rg, 4)], [])) rfl rfl (by simp) (cfa (by simp [apartE]) (cfn)) (o_loadB1 (atL (k := 4) rfl) sz22 ag22 rfl rfl (v := eL (AV.int .i64) r) rfl (dP rfl rfl (o_move (v := .int .i64 level) rfl (dP rfl rfl (o_idxL td22 sz3 (by decide) (fun _ => rfl) rfl rfl hg1 ?_)))))))
  refine dP rfl rfl (o_loadI1 sz3 ag3 rfl rfl (v := .int .i64 (at' r level)) rfl (dP rfl rfl (o_shlG rfl rfl hg2 (dP rfl rfl (o_or rfl rfl ?_)))))
  refine dCE (vs := [.agg [eL (AV.int .i64) r, .sl 3 q0 k0 g3 0 u1.length, .int .i64 r1], eL AV.bool table, AV.int .i64 (level + 1), AV.int .i64 (bits .or .i64 state (1 * 2 ^ (Int.toNat (at' r level))))]) (V := fun gm => .tuple [.agg [eL (AV.int .i64) r3, .sl 3 q0 k0 (gm 0) 0 u2.length, .int .i64 r4], .int .i64 r5]) (rd := []) (wk := [(q0, k0)]) (wr := fun gm => [(q0, k0, .arr 3 (List.map eDNode u2), (gm 0))]) rfl (vl' vr (vl' vr (vl' vr (vl' vr (vn))))) rfl (cfo (by kernel_rfl) (cfo (by kernel_rfl) (cfn))) (by simp) (fun _ => rfl) (fun S' hA hB => ctrX (sx_c (ag hB 0 rfl (atX hne0 hdx 0 rfl)) (sx_n)) (ih (dk_c (ni_n) (dk_n)) hc (fun _ _ _ _ h0 he => by obtain ⟨rfl, rfl, rfl, rfl⟩ := he; exact ⟨fun i => [h0].getD i 0, rfl, sm_c (sx_n)⟩))) (fun gm => ?_)
  refine vdT.eqS (sa_c (sa_n) (setX hne0 hdx 0 rfl rfl)) ?_
  refine dP rfl rfl (o_move (v := .tuple [.agg [eL (AV.int .i64) r3, .sl 3 q0 k0 (gm 0) 0 u2.length, .int .i64 r4], .int .i64 r5]) rfl (dP rfl rfl (o_extract (v := .agg [eL (AV.int .i64) r3, .sl 3 q0 k0 (gm 0) 0 u2.length, .int .i64 r4]) rfl rfl rfl (dP rfl rfl (o_extract (v := .int .i64 r5) rfl rfl rfl ?_)))))
  refine dL (E := ([], [(rg, 4)])) rfl rfl (by simp) (cfo (by kernel_rfl) (cfo (by kernel_rfl) (cfo (by kernel_rfl) (cfn)))) (o_storeB (atL (k := 4) rfl) sz25 (by decide) rfl (w := .agg [eL (AV.int .i64) r3, .sl 3 q0 k0 (gm 0) 0 u2.length, .int .i64 r4]) rfl rfl rfl (v := .agg [eL (AV.int .i64) r3, .sl 3 q0 k0 (gm 0) 0 u2.length, .int .i64 r4]) rfl setL (dP rfl rfl (o_assign (v := .int .i64 r5) rfl (dN ?_))))
  refine qZ (qZ (rZ (mvZ (.int .i64 r2) rfl (mvZ (.int .i64 r5) rfl (wZ rg (o_eql rfl rfl (nZ ?_)))))))
  refine Vc.cond' rfl (fun hb2 => ?_) (fun hb2 => ?_)
  · replace h := h.1 hb2
    refine qZ (rZ (wZ rg (o_loadBA (atL (k := 4) rfl) sz25 (by decide) ag25 rfl rfl (v := .agg [eL (AV.int .i64) r3, .sl 3 q0 k0 (gm 0) 0 u2.length, .int .i64 r4]) rfl (mvZ (.int .i64 r2) rfl ?_))))
    refine wZ rg (o_storeB (atL (k := 8) rfl) sz25 (by decide) rfl (w := .agg [eL (AV.int .i64) r3, .sl 3 q0 k0 (gm 0) 0 u2.length, .int .i64 r4]) rfl rfl rfl (v := .agg [eL (AV.int .i64) r3, .sl 3 q0 k0 (gm 0) 0 u2.length, .int .i64 r4]) rfl setL (asZ (.int .i64 r2) rfl (nZ ?_)))
    refine Vc.ret' ?_
    refine res_cellA (atL (k := 8) rfl) sz25 (by decide) ag25 rfl rfl (v := .agg [eL (AV.int .i64) r3, .sl 3 q0 k0 (gm 0) 0 u2.length, .int .i64 r4]) rfl (res_tmp (v := .int .i64 r2) rfl (res_nil ?_))
    show Gives _ (.tuple [.agg [eL (AV.int .i64) r3, .sl 3 q0 k0 (gm 0) 0 u2.length, .int .i64 r4], .int .i64 r2]) _
    exact gives_out (hfr _ rfl) (VW.tupL (vl' vr (vl' vr (vn)))) (hQ _ _ _ _ _ h)
  replace h := h.2 hb2
  refine Vc.skip' ?_
  refine qZ (rZ (wZ rg (o_faP td25 rfl rfl (by rw [sz22]; decide) rfl (wZ rg (o_loadB1 (atL (k := 4) rfl) sz22 ag22 rfl rfl (v := eL (AV.int .i64) r3) rfl (mvZ (.int .i64 level) rfl (wZ rg (o_idxL td22 sz3 (by decide) (fun _ => rfl) rfl rfl h.1 ?_))))))))
  replace h := h.2
  refine wZ rg (o_loadI1 sz3 ag3 rfl rfl (v := .int .i64 (at' r3 level)) rfl (mvZ (.int .i64 r2) rfl (mvZ (.int .i64 r5) rfl (wZ rg (o_build td134 zav134 bok134 szs134 sz134 (ps := [(0, .int .i64 (at' r3 level)), (1, .int .i64 r2), (2, .int .i64 r5)]) rfl rfl (v := .agg [.int .i64 (at' r3 level), .int .i64 r2, .int .i64 r5]) rfl (wZ rg (o_alloc zav134 ok134 (kk := 3) rfl (fun g4 => ?_))))))))
  refine wZ rg (o_storeB (atL (k := 12) rfl) sz134 (by decide) rfl (w := .agg [.int .i64 (at' r3 level), .int .i64 r2, .int .i64 r5]) rfl rfl rfl (v := .agg [.int .i64 (at' r3 level), .int .i64 r2, .int .i64 r5]) rfl setL (nZ (qZ (qZ (rZ (asZ (.int .i64 0) rfl (nZ ?_)))))))
  refine Vc.blk ?_
  obtain ⟨I, μ, h0, hI⟩ := h
  refine Vc.loop' (σ := (Int)) (fun y => I y) (fun y => μ y) (fun y => envOf [(4, .ptr rg 4 g1 0 0), (8, .ptr rg 8 g2 0 0), (12, .ptr rg 12 g4 0 0), (13, .int .i64 y)]) (fun y => stL (stX S [(q0, k0, .arr 3 (List.map eDNode u2), (gm 0))]) rg [(4, .arr 3 [.agg [eL (AV.int .i64) r3, .sl 3 q0 k0 (gm 0) 0 u2.length, .int .i64 r4]], g1), (8, .arr 3 [.agg [.nil, .nil, .int .i64 0]], g2), (12, .arr 3 [.agg [.int .i64 (at' r3 level), .int .i64 r2, .int .i64 r5]], g4)]) 0 (canon (fc vr (fc vr (fc vr (fc vr (fn))))) (sc rfl (sc rfl (sc rfl (sn))))) h0 (fun i h => ?_)
  replace h := hI i h
  show Vc _ _ _ _ (envOf [(4, .ptr rg 4 g1 0 0), (8, .ptr rg 8 g2 0 0), (12, .ptr rg 12 g4 0 0), (13, .int .i64 i)]) (stL (stX S [(q0, k0, .arr 3 (List.map eDNode u2), (gm 0))]) rg [(4, .arr 3 [.agg [eL (AV.int .i64) r3, .sl 3 q0 k0 (gm 0) 0 u2.length, .int .i64 r4]], g1), (8, .arr 3 [.agg [.nil, .nil, .int .i64 0]], g2), (12, .arr 3 [.agg [.int .i64 (at' r3 level), .int .i64 r2, .int .i64 r5]], g4)])
  refine qZ (qZ (rZ (mvZ (.int .i64 i) rfl (wZ rg (o_faP td25 rfl rfl (by rw [sz23]; decide) rfl (wZ rg (o_loadB1 (atL (k := 4) rfl) sz23 ag23 rfl rfl (v := .sl 3 q0 k0 (gm 0) 0 u2.length) rfl (wZ rg (o_lenR td23 rfl (wZ rg (o_lss rfl rfl (nZ ?_))))))))))))
  refine Vc.cond' rfl (fun hb3 => ?_) (fun hb3 => ?_)
  · replace h := h.1 hb3
    refine Vc.skip' ?_
    refine qZ ?_
    refine Vc.blk ?_
    refine qZ ?_
    have hi := h.1
    replace h := h.2
    refine Vc.drawn' mixed rg (fun _ => jcr2) (by kernel_rfl) ?_
    refine dP rfl rfl (o_faP td25 rfl rfl (by rw [sz23]; decide) rfl (dL (E := ([(rg, 4)], [])) rfl rfl (by simp) (cfn) (o_loadB1 (atL (k := 4) rfl) sz23 ag23 rfl rfl (v := .sl 3 q0 k0 (gm 0) 0 u2.length) rfl (dP rfl rfl (o_move (v := .int .i64 i) rfl (dP rfl rfl (o_idxR0 td23 sz134 (by decide) rfl rfl hi ?_)))))))
    refine dL (E := ([(q0, k0)], [])) rfl rfl (by simp) (cfo (by kernel_rfl) (cfn)) (o_loadRA (atX hne0 hdx 0 rfl) sz134 (by decide) ag134 rfl (lt_of hi (by first | rfl | omega | (simp only [go_sem] <;> omega))) rfl (v := eDNode (at' u2 i)) rfl ?_)
    refine dL (E := ([(rg, 12)], [])) rfl rfl (by simp) (cfa (by simp [apartE]) (cfa (by simp [apartE]) (cfn))) (o_loadBA (atL (k := 12) rfl) sz134 (by decide) ag134 rfl rfl (v := .agg [.int .i64 (at' r3 level), .int .i64 r2, .int .i64 r5]) rfl (dP rfl rfl (o_eqlS ksh134 rfl rfl rfl rfl (dN ?_))))
    refine Vc.cond' rfl (fun hb4 => ?_) (fun hb4 => ?_)
    · replace h := h.1 hb4
      refine qZ (rZ (wZ rg (o_loadBA (atL (k := 4) rfl) sz25 (by decide) ag25 rfl rfl (v := .agg [eL (AV.int .i64) r3, .sl 3 q0 k0 (gm 0) 0 u2.length, .int .i64 r4]) rfl (mvZ (.int .i64 i) rfl (wZ rg (o_addG rfl rfl h.1 ?_))))))
      replace h := h.2
      refine wZ rg (o_storeB (atL (k := 8) rfl) sz25 (by decide) rfl (w := .agg [eL (AV.int .i64) r3, .sl 3 q0 k0 (gm 0) 0 u2.length, .int .i64 r4]) rfl rfl rfl (v := .agg [eL (AV.int .i64) r3, .sl 3 q0 k0 (gm 0) 0 u2.length, .int .i64 r4]) rfl setL (asZ (.int .i64 (2 + i)) rfl (nZ ?_)))
      refine Vc.ret' ?_
      refine res_cellA (atL (k := 8) rfl) sz25 (by decide) ag25 rfl rfl (v := .agg [eL (AV.int .i64) r3, .sl 3 q0 k0 (gm 0) 0 u2.length, .int .i64 r4]) rfl (res_tmp (v := .int .i64 (2 + i)) rfl (res_nil ?_))
      show Gives _ (.tuple [.agg [eL (AV.int .i64) r3, .sl 3 q0 k0 (gm 0) 0 u2.length, .int .i64 r4], .int .i64 (2 + i)]) _
      exact gives_out (hfr _ rfl) (VW.tupL (vl' vr (vl' vr (vn)))) (hQ _ _ _ _ _ h)
    replace h := h.2 hb4
    refine Vc.skip' ?_
    refine rZ ?_
    refine mvZ (.int .i64 i) rfl (wZ rg (o_addG rfl rfl h.1 ?_))
    replace h := h.2
    refine asZ (.int .i64 (i + 1)) rfl (nZ ?_)
    exact ⟨(i + 1), (canon (fc vr (fc vr (fc vr (fc vr (fn))))) (sc rfl (sc rfl (sc rfl (sn))))), h⟩
  replace h := h.2 hb3
  refine Vc.exit' (exB_self ?_)
  refine qZ (rZ (wZ rg (o_faP td25 rfl rfl (by rw [sz23]; decide) rfl (wZ rg (o_loadB1 (atL (k := 4) rfl) sz23 ag23 rfl rfl (v := .sl 3 q0 k0 (gm 0) 0 u2.length) rfl (wZ rg (o_loadBA (atL (k := 12) rfl) sz134 (by decide) ag134 rfl rfl (v := .agg [.int .i64 (at' r3 level), .int .i64 r2, .int .i64 r5]) rfl ?_)))))))
  refine wZ rg (o_bslice td23 ok134 zav134 (es := [.agg [.int .i64 (at' r3 level), .int .i64 r2, .int .i64 r5]]) rfl (kk := 3) rfl rfl rfl rfl rfl rfl (fun g5 => ?_))
  refine wZ rg (o_appR td23 bts134 ok134 zav134 (es := u2) (xs := [(⟨(at' r3 level), r2, r5⟩ : GDNode)]) (enc := eDNode) (atX hne0 hdx 0 rfl) (by first | rfl | omega | (simp only [go_sem] <;> omega)) (view_rowE (atL (k := 83) rfl) (by first | rfl | omega | (simp only [go_sem] <;> omega))) (kk := 3) rfl rfl (fun _ => rfl) (fun _ => rfl) h.1 rfl (fun _ => (setX hne0 hdx 0 rfl rfl)) (fun g6 => ?_))
  replace h := h.2
  refine wZ rg (o_faP td25 rfl rfl (by rw [sz23]; decide) rfl (wZ rg (o_storeB (atL (k := 4) rfl) sz23 (by decide) rfl (w := .sl 3 q0 k0 g6 0 ((u2 ++ [(⟨(at' r3 level), r2, r5⟩ : GDNode)]).length)) rfl rfl rfl (v := .agg [eL (AV.int .i64) r3, .sl 3 q0 k0 g6 0 ((u2 ++ [(⟨(at' r3 level), r2, r5⟩ : GDNode)]).length), .int .i64 r4]) rfl setL (nZ (qZ ?_)))))
  have hg3 := h.1
  replace h := h.2
  refine Vc.drawn' mixed rg (fun _ => jcr2) (by kernel_rfl) ?_
  refine dL (E := ([(rg, 4)], [])) rfl rfl (by simp) (cfn) (o_loadBA (atL (k := 4) rfl) sz25 (by decide) ag25 rfl rfl (v := .agg [eL (AV.int .i64) r3, .sl 3 q0 k0 g6 0 ((u2 ++ [(⟨(at' r3 level), r2, r5⟩ : GDNode)]).length), .int .i64 r4]) rfl (dP rfl rfl (o_faP td25 rfl rfl (by rw [sz23]; decide) rfl ?_)))
  refine dL (E := ([(rg, 4)], [])) rfl rfl (by simp) (cfa (by simp [apartE]) (cfn)) (o_loadB1 (atL (k := 4) rfl) sz23 ag23 rfl rfl (v := .sl 3 q0 k0 g6 0 ((u2 ++ [(⟨(at' r3 level), r2, r5⟩ : GDNode)]).length)) rfl (dP rfl rfl (o_lenR td23 rfl (dP rfl rfl (o_addG rfl rfl hg3 ?_)))))
  refine dL (E := ([], [(rg, 8)])) rfl rfl (by simp) (cfa (by simp [apartE]) (cfo (by kernel_rfl) (cfn))) (o_storeB (atL (k := 8) rfl) sz25 (by decide) rfl (w := .agg [eL (AV.int .i64) r3, .sl 3 q0 k0 g6 0 ((u2 ++ [(⟨(at' r3 level), r2, r5⟩ : GDNode)]).length), .int .i64 r4]) rfl rfl rfl (v := .agg [eL (AV.int .i64) r3, .sl 3 q0 k0 g6 0 ((u2 ++ [(⟨(at' r3 level), r2, r5⟩ : GDNode)]).length), .int .i64 r4]) rfl setL ?_)
  refine dP rfl rfl (o_assign (v := .int .i64 (1 + ((u2 ++ [(⟨(at' r3 level), r2, r5⟩ : GDNode)]).length : Int))) rfl (dN ?_))
  refine Vc.ret' ?_
  refine res_cellA (atL (k := 8) rfl) sz25 (by decide) ag25 rfl rfl (v := .agg [eL (AV.int .i64) r3, .sl 3 q0 k0 g6 0 ((u2 ++ [(⟨(at' r3 level), r2, r5⟩ : GDNode)]).length), .int .i64 r4]) rfl (res_tmp (v := .int .i64 (1 + ((u2 ++ [(⟨(at' r3 level), r2, r5⟩ : GDNode)]).length : Int))) rfl (res_nil ?_))
  show Gives _ (.tuple [.agg [eL (AV.int .i64) r3, .sl 3 q0 k0 g6 0 ((u2 ++ [(⟨(at' r3 level), r2, r5⟩ : GDNode)]).length), .int .i64 r4], .int .i64 (1 + ((u2 ++ [(⟨(at' r3 level), r2, r5⟩ : GDNode)]).length : Int))]) _
  exact gives_out (hfr _ rfl) (VW.tupL (vl' vr (vl' vr (vn)))) (hQ _ _ _ _ _ h)
theorem ref15_Of_ctr {table : List Bool} {o : List Int} {Q : GDiagram → Prop} {S : St} {R : AV → St → Prop} (h : ref15_Of_W table o Q) (hQ : ∀ r1, Q r1 → R (eDiagram r1) S) :
    Ctr Try.prog 130 [eL AV.bool table, eL (AV.int .i64) o] S R := by
  unfold ref15_Of_W at h
  refine enterT Try.func130 rfl Try.ntmps130 Try.results130 (by kernel_rfl) (fun rg hrg => ?_)
  refine qZ (rZ (wZ rg (o_alloc zav25 ok25 (kk := 3) rfl (fun g1 => (nZ (qZ (rZ (wZ rg (o_build td25 zav25 bok25 szs25 sz25 (ps := []) rfl rfl (v := .agg [.nil, .nil, .int .i64 0]) rfl (wZ rg (o_alloc zav25 ok25 (kk := 3) rfl (fun g2 => (wZ rg (o_storeB (atL (k := 5) rfl) sz25 (by decide) rfl (w := .agg [.nil, .nil, .int .i64 0]) rfl rfl rfl (v := .agg [.nil, .nil, .int .i64 0]) rfl setL (nZ ?_)))))))))))))))
  refine qZ (rZ (wZ rg (o_faP td25 rfl rfl (by rw [sz22]; decide) rfl (wZ rg (o_loadB1 (atL (k := 5) rfl) sz22 ag22 rfl rfl (v := .nil) rfl (mvZ (eL (AV.int .i64) o) rfl (wZ rg (o_appN td22 bts3 ok3 zav3 (xs := o) (enc := AV.int .i64) (rfl) (kk := 1) rfl rfl (fun _ => rfl) (fun _ => rfl) h.1 rfl (fun g3 => ?_)))))))))
  replace h := h.2
  refine wZ rg (o_faP td25 rfl rfl (by rw [sz22]; decide) rfl (wZ rg (o_storeB (atL (k := 5) rfl) sz22 (by decide) rfl (w := .sl 1 rg 10 g3 0 o.length) rfl rfl rfl (v := .agg [.sl 1 rg 10 g3 0 o.length, .nil, .int .i64 0]) rfl setL (nZ (qZ (rZ (wZ rg (o_loadBA (atL (k := 5) rfl) sz25 (by decide) ag25 rfl rfl (v := .agg [.sl 1 rg 10 g3 0 o.length, .nil, .int .i64 0]) rfl (mvZ (eL AV.bool table) rfl ?_)))))))))
  refine Wl.wk (canon_freezeB (k := 10) (xs := List.map (AV.int .i64) o) rfl (es := [(4, .ptr rg 4 g1 0 0), (5, .ptr rg 5 g2 0 0), (13, .agg [eL (AV.int .i64) o, .nil, .int .i64 0]), (14, eL AV.bool table)]) (fc vr (fc vr (fc (VW.aggL (vl' (frz_full rfl) (vl' vr (vl' vr (vn))))) (fc vr (fn))))) (m := [(4, .arr 3 [.agg [.nil, .nil, .int .i64 0]], g1), (5, .arr 3 [.agg [eL (AV.int .i64) o, .nil, .int .i64 0]], g2)]) (zc rfl (zb rfl (zl (frz_full rfl) (zl vr (zl vr (zln)))) (zn)))) ?_
  obtain ⟨_, h⟩ := h
  refine wZ rg (o_call (us := [.agg [eL (AV.int .i64) o, .nil, .int .i64 0], eL AV.bool table, AV.int .i64 0, AV.int .i64 0]) rfl (vl' vr (vl' vr (vl' vr (vl' vr (vn))))) (Ctr.matC 0 1 rg 4800000 3 rfl rfl (by decide) (fun g4 => ctrX ((sx_c (atL (k := 4800000) rfl) (sx_n)).trans setL.symm) (ref15_add__e_ctr (dk_c (ni_n) (dk_n)) h fun u r r1 r2 g5 h => ?_))))
  refine Wl.eqS (sy_c (sx_n) setL) ?_
  refine mvZ (.tuple [.agg [eL (AV.int .i64) r, .sl 3 rg 4800000 g5 0 u.length, .int .i64 r1], .int .i64 r2]) rfl (wZ rg (o_extract (v := .agg [eL (AV.int .i64) r, .sl 3 rg 4800000 g5 0 u.length, .int .i64 r1]) rfl rfl rfl (wZ rg (o_extract (v := .int .i64 r2) rfl rfl rfl ?_))))
  refine wZ rg (o_storeB (atL (k := 5) rfl) sz25 (by decide) rfl (w := .agg [eL (AV.int .i64) r, .sl 3 rg 4800000 g5 0 u.length, .int .i64 r1]) rfl rfl rfl (v := .agg [eL (AV.int .i64) r, .sl 3 rg 4800000 g5 0 u.length, .int .i64 r1]) rfl setL (wZ rg (o_faP td25 rfl rfl (by rw [sz3]; decide) rfl ?_)))
  refine wZ rg (o_storeB (atL (k := 5) rfl) sz3 (by decide) rfl (w := .int .i64 r2) rfl rfl rfl (v := .agg [eL (AV.int .i64) r, .sl 3 rg 4800000 g5 0 u.length, .int .i64 r2]) rfl setL (nZ (qZ (rZ (wZ rg (o_loadBA (atL (k := 5) rfl) sz25 (by decide) ag25 rfl rfl (v := .agg [eL (AV.int .i64) r, .sl 3 rg 4800000 g5 0 u.length, .int .i64 r2]) rfl ?_))))))
  refine wZ rg (o_storeB (atL (k := 4) rfl) sz25 (by decide) rfl (w := .agg [eL (AV.int .i64) r, .sl 3 rg 4800000 g5 0 u.length, .int .i64 r2]) rfl rfl rfl (v := .agg [eL (AV.int .i64) r, .sl 3 rg 4800000 g5 0 u.length, .int .i64 r2]) rfl setL (nZ ?_))
  refine Vc.ret' ?_
  refine res_cellA (atL (k := 4) rfl) sz25 (by decide) ag25 rfl rfl (v := .agg [eL (AV.int .i64) r, .sl 3 rg 4800000 g5 0 u.length, .int .i64 r2]) rfl (res_nil ?_)
  show Gives _ (.agg [eL (AV.int .i64) r, .sl 3 rg 4800000 g5 0 u.length, .int .i64 r2]) _
  refine gives_freeze (k := 4800000) (xs := List.map eDNode u) rfl (v' := .agg [eL (AV.int .i64) r, eL eDNode u, .int .i64 r2]) (VW.aggL (vl' vr (vl' (frz_full rfl) (vl' vr (vn))))) ?_
  exact gives_out hrg (VW.refl _) (hQ _ h)
end Go.Proofs.Ytllegjdggcmgaaa
/- Walks of functions. Conditions: none. -/
namespace Go.Proofs.Ytllegjdggcmgaaa
open Go.Gg
set_option maxRecDepth 100000
theorem ref16_Compose_ctr {d : GDiagram} {i : Int} {g1 : GDiagram} {Q : GDiagram → Prop} {S : St} {R : AV → St → Prop} (h : ref16_Compose_W d i g1 Q) (hQ : ∀ r1, Q r1 → R (eDiagram r1) S) :
    Ctr Try.prog 56 [eDiagram d, AV.int .i64 i, eDiagram g1] S R := by
  unfold ref16_Compose_W at h
  refine enterT Try.func56 rfl Try.ntmps56 Try.results56 (by kernel_rfl) (fun rg hrg => ?_)
  refine qZ (rZ (wZ rg (o_box (v := eDiagram d) rfl rfl (kk := 3) rfl (by decide) (fun g2 => (wZ rg (o_box (v := eDiagram g1) rfl rfl (kk := 3) rfl (by decide) (fun g3 => (wZ rg (o_alloc zav25 ok25 (kk := 3) rfl (fun g4 => (nZ (qZ ?_))))))))))))
  obtain ⟨t1, hc, h⟩ := h
  obtain ⟨x, hc1, h⟩ := h
  refine Vc.drawn' mixed rg (usOf [(1, pc (eL AV.bool t1)), (3, pc (eL AV.bool x))]) (by kernel_rfl) ?_
  refine dL (E := ([(rg, 3)], [])) rfl rfl (by simp) (cfn) (o_loadBA (atL (k := 3) rfl) sz25 (by decide) ag25 rfl rfl (v := eDiagram d) rfl ?_)
  refine dC (vs := [eDiagram d]) rfl (vl' vr (vn)) (fun _ => ref15_Table_ctr hc (fun _ hr => ⟨by rw [hr], rfl⟩)) rfl ?_
  refine dL (E := ([(rg, 5)], [])) rfl rfl (by simp) (cfa (by simp [apartE]) (cfn)) (o_loadBA (atL (k := 5) rfl) sz25 (by decide) ag25 rfl rfl (v := eDiagram g1) rfl ?_)
  refine dC (vs := [eDiagram g1]) rfl (vl' vr (vn)) (fun _ => ref15_Table_ctr hc1 (fun _ hr => ⟨by rw [hr], rfl⟩)) rfl ?_
  refine dP rfl rfl (o_assign (v := eL AV.bool t1) rfl (dP rfl rfl (o_assign (v := eL AV.bool x) rfl (dN (qZ (rZ (asZ .nil rfl (nZ (qZ (qZ (rZ (asZ (.int .i64 0) rfl (nZ ?_)))))))))))))
  refine Vc.blk ?_
  refine Vc.mat 9 34 1 rfl (by decide) (fun g5 => ?_)
  obtain ⟨I, μ, h0, hI⟩ := h
  refine Vc.loop' (σ := ((Int × (List Bool)) × (Nat))) (fun y => I y.1) (fun y => μ y.1) (fun y => envOf [(1, .int .i64 i), (3, .ptr rg 3 g2 0 0), (6, .ptr rg 6 g4 0 0), (7, eL AV.bool t1), (8, eL AV.bool x), (9, .sl 1 rg 34 y.2 0 y.1.2.length), (10, .int .i64 y.1.1)]) (fun y => stL S rg [(3, .arr 3 [eDiagram d], g2), (6, .arr 3 [.agg [.nil, .nil, .int .i64 0]], g4), (34, .arr 1 (List.map AV.bool y.1.2), y.2)]) ((0, []), g5) (canon (fc vr (fc vr (fc vr (fc vr (fc vr (fc (VW.slen (by first | rfl | omega | (simp only [go_sem] <;> omega))) (fc vr (fn)))))))) (sc rfl (sc rfl (sc rfl (sn))))) h0 (fun y h => ?_)
  obtain ⟨⟨s, out⟩, g6⟩ := y
  replace h := hI (s, out) h
  show Vc _ _ _ _ (envOf [(1, .int .i64 i), (3, .ptr rg 3 g2 0 0), (6, .ptr rg 6 g4 0 0), (7, eL AV.bool t1), (8, eL AV.bool x), (9, .sl 1 rg 34 g6 0 out.length), (10, .int .i64 s)]) (stL S rg [(3, .arr 3 [eDiagram d], g2), (6, .arr 3 [.agg [.nil, .nil, .int .i64 0]], g4), (34, .arr 1 (List.map AV.bool out), g6)])
  refine qZ (qZ (rZ (mvZ (.int .i64 s) rfl (mvZ (eL AV.bool t1) rfl (wZ rg (o_len td139 rfl (wZ rg (o_lss rfl rfl (nZ ?_)))))))))
  refine Vc.cond' rfl (fun hb => ?_) (fun hb => ?_)
  · replace h := h.1 hb
    refine Vc.skip' ?_
    refine qZ ?_
    refine Vc.blk ?_
    refine qZ (rZ (mvZ (eL AV.bool x) rfl (mvZ (.int .i64 s) rfl (wZ rg (o_idxL td139 sz4 (by decide) (fun _ => rfl) rfl rfl h.1 ?_)))))
    replace h := h.2
    refine wZ rg (o_loadI1 sz4 ag4 rfl rfl (v := .bool (at' x s)) rfl (nZ ?_))
    refine Vc.cond' rfl (fun hb1 => ?_) (fun hb1 => ?_)
    · replace h := h.1 hb1
      refine rZ ?_
      refine mvZ (.sl 1 rg 34 g6 0 out.length) rfl (mvZ (eL AV.bool t1) rfl (mvZ (.int .i64 s) rfl (mvZ (.int .i64 i) rfl (wZ rg (o_shlG rfl rfl h.1 ?_)))))
      replace h := h.2
      refine wZ rg (o_or rfl rfl (wZ rg (o_idxL td139 sz4 (by decide) (fun _ => rfl) rfl rfl h.1 ?_)))
      replace h := h.2
      refine wZ rg (o_loadI1 sz4 ag4 rfl rfl (v := .bool (at' t1 (bits .or .i64 s (1 * 2 ^ (Int.toNat i))))) rfl (wZ rg (o_bslice td139 ok4 zav4 (es := [.bool (at' t1 (bits .or .i64 s (1 * 2 ^ (Int.toNat i))))]) rfl (kk := 1) rfl rfl rfl rfl rfl rfl (fun g7 => ?_))))
      refine wZ rg (o_appR td139 bts4 ok4 zav4 (es := out) (xs := [(at' t1 (bits .or .i64 s (1 * 2 ^ (Int.toNat i))))]) (enc := AV.bool) (atL (k := 34) rfl) (by first | rfl | omega | (simp only [go_sem] <;> omega)) (view_rowE (atL (k := 33) rfl) (by first | rfl | omega | (simp only [go_sem] <;> omega))) (kk := 1) rfl rfl (fun _ => rfl) (fun _ => rfl) h.1 rfl (fun _ => setL) (fun g8 => ?_))
      replace h := h.2
      refine asZ (.sl 1 rg 34 g8 0 ((out ++ [(at' t1 (bits .or .i64 s (1 * 2 ^ (Int.toNat i))))]).length)) rfl (nZ (rZ (mvZ (.int .i64 s) rfl (wZ rg (o_addG rfl rfl h.1 ?_)))))
      replace h := h.2
      refine asZ (.int .i64 (s + 1)) rfl (nZ ?_)
      exact ⟨(((s + 1), (out ++ [(at' t1 (bits .or .i64 s (1 * 2 ^ (Int.toNat i))))])), g8), (canon (fc vr (fc vr (fc vr (fc vr (fc vr (fc vr (fc vr (fn)))))))) (sc rfl (sc rfl (sc rfl (sn))))), h⟩
    replace h := h.2 hb1
    refine rZ ?_
    refine mvZ (.sl 1 rg 34 g6 0 out.length) rfl (mvZ (eL AV.bool t1) rfl (mvZ (.int .i64 s) rfl (mvZ (.int .i64 i) rfl (wZ rg (o_shlG rfl rfl h.1 ?_)))))
    replace h := h.2
    refine wZ rg (o_andNot rfl rfl (wZ rg (o_idxL td139 sz4 (by decide) (fun _ => rfl) rfl rfl h.1 ?_)))
    replace h := h.2
    refine wZ rg (o_loadI1 sz4 ag4 rfl rfl (v := .bool (at' t1 (bits .andNot .i64 s (1 * 2 ^ (Int.toNat i))))) rfl (wZ rg (o_bslice td139 ok4 zav4 (es := [.bool (at' t1 (bits .andNot .i64 s (1 * 2 ^ (Int.toNat i))))]) rfl (kk := 1) rfl rfl rfl rfl rfl rfl (fun g9 => ?_))))
    refine wZ rg (o_appR td139 bts4 ok4 zav4 (es := out) (xs := [(at' t1 (bits .andNot .i64 s (1 * 2 ^ (Int.toNat i))))]) (enc := AV.bool) (atL (k := 34) rfl) (by first | rfl | omega | (simp only [go_sem] <;> omega)) (view_rowE (atL (k := 43) rfl) (by first | rfl | omega | (simp only [go_sem] <;> omega))) (kk := 1) rfl rfl (fun _ => rfl) (fun _ => rfl) h.1 rfl (fun _ => setL) (fun g10 => ?_))
    replace h := h.2
    refine asZ (.sl 1 rg 34 g10 0 ((out ++ [(at' t1 (bits .andNot .i64 s (1 * 2 ^ (Int.toNat i))))]).length)) rfl (nZ (rZ (mvZ (.int .i64 s) rfl (wZ rg (o_addG rfl rfl h.1 ?_)))))
    replace h := h.2
    refine asZ (.int .i64 (s + 1)) rfl (nZ ?_)
    exact ⟨(((s + 1), (out ++ [(at' t1 (bits .andNot .i64 s (1 * 2 ^ (Int.toNat i))))])), g10), (canon (fc vr (fc vr (fc vr (fc vr (fc vr (fc vr (fc vr (fn)))))))) (sc rfl (sc rfl (sc rfl (sn))))), h⟩
  replace h := h.2 hb
  refine Vc.exit' (exB_self ?_)
  refine qZ (rZ (mvZ (.sl 1 rg 34 g6 0 out.length) rfl (wZ rg (o_faP td25 rfl rfl (by rw [sz22]; decide) rfl (wZ rg (o_loadB1 (atL (k := 3) rfl) sz22 ag22 rfl rfl (v := eL (AV.int .i64) d.Order) rfl ?_))))))
  refine Wl.wk (canon_freeze (k := 34) (xs := List.map AV.bool out) rfl (es := [(6, .ptr rg 6 g4 0 0), (45, eL AV.bool out), (47, eL (AV.int .i64) d.Order)]) (fc vr (fc (frz_full rfl) (fc vr (fn)))) (m := [(6, .arr 3 [.agg [.nil, .nil, .int .i64 0]], g4)]) (sc rfl (sn))) ?_
  refine wZ rg (o_call (us := [eL AV.bool out, eL (AV.int .i64) d.Order]) rfl (vl' vr (vl' vr (vn))) (ref15_Of_ctr h fun r h => (wZ rg (o_storeB (atL (k := 6) rfl) sz25 (by decide) rfl (w := eDiagram r) rfl rfl rfl (v := eDiagram r) rfl setL (nZ ?_)))))
  refine Vc.ret' ?_
  refine res_cellA (atL (k := 6) rfl) sz25 (by decide) ag25 rfl rfl (v := eDiagram r) rfl (res_nil ?_)
  show Gives _ (eDiagram r) _
  exact gives_out hrg (VW.refl _) (hQ _ h)
end Go.Proofs.Ytllegjdggcmgaaa
