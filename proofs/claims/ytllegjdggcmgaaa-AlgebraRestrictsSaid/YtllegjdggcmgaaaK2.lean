/- Walks of functions. Conditions: none. -/
import Derived.Test.YtllegjdggcmgaaaWa
import Derived.Test.YtllegjdggcmgaaaGgTy
import Derived.Test.YtllegjdggcmgaaaGd
import Derived.Test.YtllegjdggcmgaaaK1
/- Walks of functions. Conditions: none. -/
namespace Go.Proofs.Ytllegjdggcmgaaa
open Go.Gg
set_option maxRecDepth 100000
theorem decision_Table__Import__e2_ctr {d : GDiagram} {order : List Int} {place : List Int} {nodes : List GDNode} {unique : GMap Int} {memo : GMap Int} {q0 k0 g0 q1 k1 g1 q2 k2 g2 q3 k3 g3 q4 k4 g4 q5 k5 g5 : Nat} (hdk : DK [(q0, k0), (q3, k3), (q4, k4), (q1, k1), (q2, k2), (q5, k5)]) {Q : List GDNode → GMap Int → Int → Prop} {S : St} {R : AV → St → Prop} (h : decision_Table__Import__e2_W d order place nodes unique memo Q) (hQ : ∀ r1 r2 r3, ∀ h3, Q r1 r2 r3 → R (AV.int .i64 r3) (stX S [(q0, k0, .arr 5 [.agg [.sl 1 q1 k1 g1 0 order.length, .sl 1 q2 k2 g2 0 place.length, .sl 3 q3 k3 h3 0 r1.length, .map q4 k4 g4, .map q5 k5 g5]], g0), (q3, k3, .arr 3 (List.map eDNode r1), h3), (q4, k4, mapE (AV.int .i64) (.many [.i64, .i64, .i64]) r2, g4), (q1, k1, .arr 1 (List.map (AV.int .i64) order), g1), (q2, k2, .arr 1 (List.map (AV.int .i64) place), g2), (q5, k5, mapE (AV.int .i64) (.many [.i64, .i64, .i64]) memo, g5)])) :
    Ctr Try.prog 186 [.ptr q0 k0 g0 0 0, eDiagram d] (stX S [(q0, k0, .arr 5 [.agg [.sl 1 q1 k1 g1 0 order.length, .sl 1 q2 k2 g2 0 place.length, .sl 3 q3 k3 g3 0 nodes.length, .map q4 k4 g4, .map q5 k5 g5]], g0), (q3, k3, .arr 3 (List.map eDNode nodes), g3), (q4, k4, mapE (AV.int .i64) (.many [.i64, .i64, .i64]) unique, g4), (q1, k1, .arr 1 (List.map (AV.int .i64) order), g1), (q2, k2, .arr 1 (List.map (AV.int .i64) place), g2), (q5, k5, mapE (AV.int .i64) (.many [.i64, .i64, .i64]) memo, g5)]) R := by
  unfold decision_Table__Import__e2_W at h
  refine enterT Try.func186 rfl Try.ntmps186 Try.results186 (by kernel_rfl) (fun rg hrg => ?_)
  have hdx : DX [(q0, k0, .arr 5 [.agg [.sl 1 q1 k1 g1 0 order.length, .sl 1 q2 k2 g2 0 place.length, .sl 3 q3 k3 g3 0 nodes.length, .map q4 k4 g4, .map q5 k5 g5]], g0), (q3, k3, .arr 3 (List.map eDNode nodes), g3), (q4, k4, mapE (AV.int .i64) (.many [.i64, .i64, .i64]) unique, g4), (q1, k1, .arr 1 (List.map (AV.int .i64) order), g1), (q2, k2, .arr 1 (List.map (AV.int .i64) place), g2), (q5, k5, mapE (AV.int .i64) (.many [.i64, .i64, .i64]) memo, g5)] := hdk
  have hfr := fun X' e => fresh_set (S := S) (rg := rg) (X := [(q0, k0, .arr 5 [.agg [.sl 1 q1 k1 g1 0 order.length, .sl 1 q2 k2 g2 0 place.length, .sl 3 q3 k3 g3 0 nodes.length, .map q4 k4 g4, .map q5 k5 g5]], g0), (q3, k3, .arr 3 (List.map eDNode nodes), g3), (q4, k4, mapE (AV.int .i64) (.many [.i64, .i64, .i64]) unique, g4), (q1, k1, .arr 1 (List.map (AV.int .i64) order), g1), (q2, k2, .arr 1 (List.map (AV.int .i64) place), g2), (q5, k5, mapE (AV.int .i64) (.many [.i64, .i64, .i64]) memo, g5)]) (X' := X') e hrg
  have hne0 := fresh_ne hdx hrg 0 rfl
  have hne3 := fresh_ne hdx hrg 1 rfl
  have hne4 := fresh_ne hdx hrg 2 rfl
  have hne1 := fresh_ne hdx hrg 3 rfl
  have hne2 := fresh_ne hdx hrg 4 rfl
  have hne5 := fresh_ne hdx hrg 5 rfl
  refine qZ (rZ (wZ rg (o_box (v := eDiagram d) rfl rfl (kk := 3) rfl (by decide) (fun g6 => (asZ (.int .i64 0) rfl (nZ (qZ (rZ (wZ rg (o_faP td25 rfl rfl (by rw [sz23]; decide) rfl (wZ rg (o_loadB1 (atL (k := 3) rfl) sz23 ag23 rfl rfl (v := eL eDNode d.Nodes) rfl (wZ rg (o_len td23 rfl (wZ rg (o_addG rfl rfl h.1 ?_))))))))))))))))
  replace h := h.2
  refine wZ rg (o_make td22 bts3 ok3 (enc := AV.int .i64) (z' := 0) zav3 (kk := 1) rfl rfl rfl h.1 (fun g7 => ?_))
  replace h := h.2
  refine asZ (.sl 1 rg 12 g7 0 (Int.toNat (2 + (d.Nodes.length : Int)))) rfl (nZ (qZ (rZ (mvZ (.sl 1 rg 12 g7 0 (Int.toNat (2 + (d.Nodes.length : Int)))) rfl (wZ rg (o_idxR0 td22 sz3 (by decide) rfl rfl h.1 ?_))))))
  have hi := h.1
  replace h := h.2
  refine wZ rg (o_storeR1 (atL (k := 12) rfl) sz3 (by decide) (x' := 1) (fun _ => rfl) rfl rfl (lt_of hi (by first | rfl | omega | (simp only [go_sem] <;> omega))) rfl rfl setL (nZ (qZ (qZ (rZ (wZ rg (o_faP td25 rfl rfl (by rw [sz23]; decide) rfl (wZ rg (o_loadB1 (atL (k := 3) rfl) sz23 ag23 rfl rfl (v := eL eDNode d.Nodes) rfl (wZ rg (o_len td23 rfl (mvZ (.int .i64 0) rfl (nZ ?_)))))))))))))
  refine Vc.blk ?_
  obtain ⟨I, μ, h0, hI⟩ := h
  refine Vc.loop' (σ := ((Int × (List Int) × (List GDNode) × (GMap Int)) × (Nat))) (fun y => I y.1) (fun y => μ y.1) (fun y => envOf [(0, .ptr q0 k0 g0 0 0), (3, .ptr rg 3 g6 0 0), (5, .sl 1 rg 12 g7 0 y.1.2.1.length), (16, eL eDNode d.Nodes), (17, .int .i64 (d.Nodes.length : Int)), (18, .int .i64 y.1.1)]) (fun y => stL (stX S [(q0, k0, .arr 5 [.agg [.sl 1 q1 k1 g1 0 order.length, .sl 1 q2 k2 g2 0 place.length, .sl 3 q3 k3 y.2 0 y.1.2.2.1.length, .map q4 k4 g4, .map q5 k5 g5]], g0), (q3, k3, .arr 3 (List.map eDNode y.1.2.2.1), y.2), (q4, k4, mapE (AV.int .i64) (.many [.i64, .i64, .i64]) y.1.2.2.2, g4), (q1, k1, .arr 1 (List.map (AV.int .i64) order), g1), (q2, k2, .arr 1 (List.map (AV.int .i64) place), g2), (q5, k5, mapE (AV.int .i64) (.many [.i64, .i64, .i64]) memo, g5)]) rg [(3, .arr 3 [eDiagram d], g6), (12, .arr 1 (List.map (AV.int .i64) y.1.2.1), g7)]) ((0, (set' (rep' (2 + (d.Nodes.length : Int)) 0) 1 1), nodes, unique), g3) (canon (fc vr (fc vr (fc (VW.slen (by first | rfl | omega | (simp only [go_sem] <;> omega))) (fc vr (fc vr (fc vr (fn))))))) (sc rfl (sc rfl (sn)))) h0 (fun y h => ?_)
  obtain ⟨⟨x, refs, x1, x2⟩, g8⟩ := y
  replace h := hI (x, refs, x1, x2) h
  show Vc _ _ _ _ (envOf [(0, .ptr q0 k0 g0 0 0), (3, .ptr rg 3 g6 0 0), (5, .sl 1 rg 12 g7 0 refs.length), (16, eL eDNode d.Nodes), (17, .int .i64 (d.Nodes.length : Int)), (18, .int .i64 x)]) (stL (stX S [(q0, k0, .arr 5 [.agg [.sl 1 q1 k1 g1 0 order.length, .sl 1 q2 k2 g2 0 place.length, .sl 3 q3 k3 g8 0 x1.length, .map q4 k4 g4, .map q5 k5 g5]], g0), (q3, k3, .arr 3 (List.map eDNode x1), g8), (q4, k4, mapE (AV.int .i64) (.many [.i64, .i64, .i64]) x2, g4), (q1, k1, .arr 1 (List.map (AV.int .i64) order), g1), (q2, k2, .arr 1 (List.map (AV.int .i64) place), g2), (q5, k5, mapE (AV.int .i64) (.many [.i64, .i64, .i64]) memo, g5)]) rg [(3, .arr 3 [eDiagram d], g6), (12, .arr 1 (List.map (AV.int .i64) refs), g7)])
  refine qZ (rZ (wZ rg (o_lss rfl rfl (nZ (qZ ?_)))))
  refine Vc.cond' rfl (fun hb => ?_) (fun hb => ?_)
  · replace h := h.1 hb
    refine Vc.skip' ?_
    refine qZ ?_
    refine Vc.blk ?_
    refine qZ (rZ (mvZ (.int .i64 x) rfl (wZ rg (o_idxL td23 sz134 (by decide) (fun _ => rfl) rfl rfl h.1 ?_))))
    replace h := h.2
    refine wZ rg (o_loadIA sz134 (by decide) ag134 rfl rfl (v := eDNode (at' d.Nodes x)) rfl (wZ rg (o_alloc zav134 ok134 (kk := 3) rfl (fun g9 => (asZ (.int .i64 x) rfl (wZ rg (o_storeB (atL (k := 7) rfl) sz134 (by decide) rfl (w := eDNode (at' d.Nodes x)) rfl rfl rfl (v := eDNode (at' d.Nodes x)) rfl setL (nZ ?_))))))))
    have hg := h.1
    replace h := h.2
    have hi1 := h.1
    replace h := h.2
    have hi2 := h.1
    replace h := h.2
    obtain ⟨u, u1, r, hc, h⟩ := h
    have hi3 := h.1
    replace h := h.2
    refine Vc.drawn' mixed rg (usOf [(16, wc (fun _ => .int .i64 r) [(q1, k1), (q2, k2), (q5, k5)] [(q0, k0), (q3, k3), (q4, k4)] (fun gm => [(q0, k0, .arr 5 [.agg [.sl 1 q1 k1 g1 0 order.length, .sl 1 q2 k2 g2 0 place.length, .sl 3 q3 k3 (gm 0) 0 u.length, .map q4 k4 g4, .map q5 k5 g5]], g0), (q3, k3, .arr 3 (List.map eDNode u), (gm 0)), (q4, k4, mapE (AV.int .i64) (.many [.i64, .i64, .i64]) u1, g4)]))]) (by kernel_rfl) ?_
    refine dP rfl rfl (o_move (v := .sl 1 rg 12 g7 0 refs.length) rfl (dP rfl rfl (o_move (v := .int .i64 x) rfl (dP rfl rfl (o_addG rfl rfl hg (dP rfl rfl (o_move (v := .ptr q0 k0 g0 0 0) rfl (dP rfl rfl (o_faP td134 rfl rfl (by rw [sz3]; decide) rfl (dL (E := ([(rg, 7)], [])) rfl rfl (by simp) (cfn) (o_loadB1 (atL (k := 7) rfl) sz3 ag3 rfl rfl (v := .int .i64 ((at' d.Nodes x).Var)) rfl ?_)))))))))))
    refine dP rfl rfl (o_move (v := .sl 1 rg 12 g7 0 refs.length) rfl (dP rfl rfl (o_faP td134 rfl rfl (by rw [sz3]; decide) rfl (dL (E := ([(rg, 7)], [])) rfl rfl (by simp) (cfa (by simp [apartE]) (cfn)) (o_loadB1 (atL (k := 7) rfl) sz3 ag3 rfl rfl (v := .int .i64 ((at' d.Nodes x).Lo)) rfl (dP rfl rfl (o_idxR0 td22 sz3 (by decide) rfl rfl hi1 ?_)))))))
    refine dL (E := ([(rg, 12)], [])) rfl rfl (by simp) (cfo (by kernel_rfl) (cfa (by simp [apartE]) (cfn))) (o_loadR1 (atL (k := 12) rfl) sz3 ag3 rfl (lt_of hi1 (by first | rfl | omega | (simp only [go_sem] <;> omega))) rfl (v := .int .i64 (at' refs ((at' d.Nodes x).Lo))) rfl (dP rfl rfl (o_move (v := .sl 1 rg 12 g7 0 refs.length) rfl (dP rfl rfl (o_faP td134 rfl rfl (by rw [sz3]; decide) rfl ?_)))))
    refine dL (E := ([(rg, 7)], [])) rfl rfl (by simp) (cfa (by simp [apartE]) (cfa (by simp [apartE]) (cfa (by simp [apartE]) (cfn)))) (o_loadB1 (atL (k := 7) rfl) sz3 ag3 rfl rfl (v := .int .i64 ((at' d.Nodes x).Hi)) rfl (dP rfl rfl (o_idxR0 td22 sz3 (by decide) rfl rfl hi2 ?_)))
    refine dL (E := ([(rg, 12)], [])) rfl rfl (by simp) (cfo (by kernel_rfl) (cfa (by simp [apartE]) (cfa (by simp [apartE]) (cfa (by simp [apartE]) (cfn))))) (o_loadR1 (atL (k := 12) rfl) sz3 ag3 rfl (lt_of hi2 (by first | rfl | omega | (simp only [go_sem] <;> omega))) rfl (v := .int .i64 (at' refs ((at' d.Nodes x).Hi))) rfl ?_)
    refine dCE (vs := [.ptr q0 k0 g0 0 0, AV.int .i64 ((at' d.Nodes x).Var), AV.int .i64 (at' refs ((at' d.Nodes x).Lo)), AV.int .i64 (at' refs ((at' d.Nodes x).Hi))]) (V := fun _ => .int .i64 r) (rd := [(q1, k1), (q2, k2), (q5, k5)]) (wk := [(q0, k0), (q3, k3), (q4, k4)]) (wr := fun gm => [(q0, k0, .arr 5 [.agg [.sl 1 q1 k1 g1 0 order.length, .sl 1 q2 k2 g2 0 place.length, .sl 3 q3 k3 (gm 0) 0 u.length, .map q4 k4 g4, .map q5 k5 g5]], g0), (q3, k3, .arr 3 (List.map eDNode u), (gm 0)), (q4, k4, mapE (AV.int .i64) (.many [.i64, .i64, .i64]) u1, g4)]) rfl (vl' vr (vl' vr (vl' vr (vl' vr (vn))))) rfl (cfo (by kernel_rfl) (cfo (by kernel_rfl) (cfo (by kernel_rfl) (cfo (by kernel_rfl) (cfo (by kernel_rfl) (cfn)))))) (by simp) (fun _ => rfl) (fun S' hA hB => ctrX (sx_c (ag hB 0 rfl (atX hne0 hdx 0 rfl)) (sx_c (ag hB 1 rfl (atX hne3 hdx 1 rfl)) (sx_c (ag hB 2 rfl (atX hne4 hdx 2 rfl)) (sx_c (ag hA 0 rfl (atX hne1 hdx 3 rfl)) (sx_c (ag hA 1 rfl (atX hne2 hdx 4 rfl)) (sx_c (ag hA 2 rfl (atX hne5 hdx 5 rfl)) (sx_n))))))) (decision_Table__Make__e2_ctr (dk_c (ni_c (dk_at 0 1 hdk rfl rfl rfl) (ni_c (dk_at 0 2 hdk rfl rfl rfl) (ni_c (dk_at 0 3 hdk rfl rfl rfl) (ni_c (dk_at 0 4 hdk rfl rfl rfl) (ni_c (dk_at 0 5 hdk rfl rfl rfl) (ni_n)))))) (dk_c (ni_c (dk_at 1 2 hdk rfl rfl rfl) (ni_c (dk_at 1 3 hdk rfl rfl rfl) (ni_c (dk_at 1 4 hdk rfl rfl rfl) (ni_c (dk_at 1 5 hdk rfl rfl rfl) (ni_n))))) (dk_c (ni_c (dk_at 2 3 hdk rfl rfl rfl) (ni_c (dk_at 2 4 hdk rfl rfl rfl) (ni_c (dk_at 2 5 hdk rfl rfl rfl) (ni_n)))) (dk_c (ni_c (dk_at 3 4 hdk rfl rfl rfl) (ni_c (dk_at 3 5 hdk rfl rfl rfl) (ni_n))) (dk_c (ni_c (dk_at 4 5 hdk rfl rfl rfl) (ni_n)) (dk_c (ni_n) (dk_n))))))) hc (fun _ _ _ h3 he => by obtain ⟨rfl, rfl, rfl⟩ := he; exact ⟨fun i => [h3].getD i 0, rfl, sm_c (sm_c (sm_c (sx_c (ag hA 0 rfl (atX hne1 hdx 3 rfl)) (sx_c (ag hA 1 rfl (atX hne2 hdx 4 rfl)) (sx_c (ag hA 2 rfl (atX hne5 hdx 5 rfl)) (sx_n))))))⟩))) (fun gm => ?_)
    refine vdT.eqS (sa_c (sa_c (sa_c (sa_n) (setX hne4 hdx 2 rfl rfl)) (setX hne3 hdx 1 rfl rfl)) (setX hne0 hdx 0 rfl rfl)) ?_
    refine dP rfl rfl (o_idxR0 td22 sz3 (by decide) rfl rfl hi3 (dL (E := ([], [(rg, 12)])) rfl rfl (by simp) (cfo (by kernel_rfl) (cfo (by kernel_rfl) (cfo (by kernel_rfl) (cfo (by kernel_rfl) (cfo (by kernel_rfl) (cfo (by kernel_rfl) (cfn))))))) (o_storeR1 (atL (k := 12) rfl) sz3 (by decide) (x' := r) (fun _ => rfl) rfl rfl (lt_of hi3 (by first | rfl | omega | (simp only [go_sem] <;> omega))) rfl rfl setL ?_)))
    refine dN ?_
    refine rZ ?_
    refine wZ rg (o_addG rfl rfl h.1 ?_)
    replace h := h.2
    refine mvZ (.int .i64 (x + 1)) rfl (nZ ?_)
    exact ⟨(((x + 1), (set' refs (2 + x) r), u, u1), (gm 0)), (canon (fc vr (fc vr (fc (VW.slen (by first | rfl | omega | (simp only [go_sem] <;> omega))) (fc vr (fc vr (fc vr (fn))))))) (sc rfl (sc rfl (sn)))), h⟩
  replace h := h.2 hb
  refine Vc.exit' (exB_self ?_)
  refine qZ (rZ (mvZ (.sl 1 rg 12 g7 0 refs.length) rfl (wZ rg (o_faP td25 rfl rfl (by rw [sz3]; decide) rfl (wZ rg (o_loadB1 (atL (k := 3) rfl) sz3 ag3 rfl rfl (v := .int .i64 d.Root) rfl (wZ rg (o_idxR0 td22 sz3 (by decide) rfl rfl h.1 ?_))))))))
  have hi4 := h.1
  replace h := h.2
  refine wZ rg (o_loadR1 (atL (k := 12) rfl) sz3 ag3 rfl (lt_of hi4 (by first | rfl | omega | (simp only [go_sem] <;> omega))) rfl (v := .int .i64 (at' refs d.Root)) rfl (asZ (.int .i64 (at' refs d.Root)) rfl (nZ ?_)))
  refine Vc.ret' ?_
  refine res_tmp (v := .int .i64 (at' refs d.Root)) rfl (res_nil ?_)
  show Gives _ (.int .i64 (at' refs d.Root)) _
  exact gives_out (hfr _ rfl) (VW.refl _) (hQ _ _ _ _ h)
set_option maxHeartbeats 4000000 in
theorem decision_Table__Compose_1__e_ctr {fu : Nat} : ∀ {r : Int} {u : Int} {u1 : Int} {u2 : GMap Int} {order : List Int} {place : List Int} {nodes : List GDNode} {unique : GMap Int} {memo : GMap Int} {q0 k0 g0 q1 k1 g1 q2 k2 g2 q3 k3 g3 q4 k4 g4 q5 k5 g5 q6 k6 g6 q7 k7 g7 q8 k8 g8 q9 k9 g9 q10 k10 g10 q11 k11 g11 : Nat} (_hdk : DK [(q5, k5), (q6, k6), (q9, k9), (q10, k10), (q11, k11), (q0, k0), (q1, k1), (q2, k2), (q3, k3), (q4, k4), (q7, k7), (q8, k8)]) {Q : GMap Int → List GDNode → GMap Int → GMap Int → Int → Prop} {S : St} {R : AV → St → Prop} (_h : decision_Table__Compose_1__e_W fu r u u1 u2 order place nodes unique memo Q) (_hQ : ∀ r1 r2 r3 r4 r5, ∀ h9, Q r1 r2 r3 r4 r5 → R (AV.int .i64 r5) (stX S [(q5, k5, .arr 5 [.agg [.sl 1 q7 k7 g7 0 order.length, .sl 1 q8 k8 g8 0 place.length, .sl 3 q9 k9 h9 0 r2.length, .map q10 k10 g10, .map q11 k11 g11]], g5), (q6, k6, mapE (AV.int .i64) (.one .i64) r1, g6), (q9, k9, .arr 3 (List.map eDNode r2), h9), (q10, k10, mapE (AV.int .i64) (.many [.i64, .i64, .i64]) r3, g10), (q11, k11, mapE (AV.int .i64) (.many [.i64, .i64, .i64]) r4, g11), (q0, k0, .arr 1 [.ptr q5 k5 g5 0 0], g0), (q1, k1, .arr 1 [.int .i64 u], g1), (q2, k2, .arr 1 [.map q6 k6 g6], g2), (q3, k3, .arr 1 [.int .i64 u1], g3), (q4, k4, .arr 1 [.fn (.func 192) [] [.ptr q0 k0 g0 0 0, .ptr q1 k1 g1 0 0, .ptr q2 k2 g2 0 0, .ptr q3 k3 g3 0 0, .ptr q4 k4 g4 0 0]], g4), (q7, k7, .arr 1 (List.map (AV.int .i64) order), g7), (q8, k8, .arr 1 (List.map (AV.int .i64) place), g8)])),
    Ctr Try.prog 192 [AV.int .i64 r, .ptr q0 k0 g0 0 0, .ptr q1 k1 g1 0 0, .ptr q2 k2 g2 0 0, .ptr q3 k3 g3 0 0, .ptr q4 k4 g4 0 0] (stX S [(q5, k5, .arr 5 [.agg [.sl 1 q7 k7 g7 0 order.length, .sl 1 q8 k8 g8 0 place.length, .sl 3 q9 k9 g9 0 nodes.length, .map q10 k10 g10, .map q11 k11 g11]], g5), (q6, k6, mapE (AV.int .i64) (.one .i64) u2, g6), (q9, k9, .arr 3 (List.map eDNode nodes), g9), (q10, k10, mapE (AV.int .i64) (.many [.i64, .i64, .i64]) unique, g10), (q11, k11, mapE (AV.int .i64) (.many [.i64, .i64, .i64]) memo, g11), (q0, k0, .arr 1 [.ptr q5 k5 g5 0 0], g0), (q1, k1, .arr 1 [.int .i64 u], g1), (q2, k2, .arr 1 [.map q6 k6 g6], g2), (q3, k3, .arr 1 [.int .i64 u1], g3), (q4, k4, .arr 1 [.fn (.func 192) [] [.ptr q0 k0 g0 0 0, .ptr q1 k1 g1 0 0, .ptr q2 k2 g2 0 0, .ptr q3 k3 g3 0 0, .ptr q4 k4 g4 0 0]], g4), (q7, k7, .arr 1 (List.map (AV.int .i64) order), g7), (q8, k8, .arr 1 (List.map (AV.int .i64) place), g8)]) R := by
  induction fu with
  | zero =>
    intro r u u1 u2 order place nodes unique memo q0 k0 g0 q1 k1 g1 q2 k2 g2 q3 k3 g3 q4 k4 g4 q5 k5 g5 q6 k6 g6 q7 k7 g7 q8 k8 g8 q9 k9 g9 q10 k10 g10 q11 k11 g11 hdk Q S R h hQ
    exact False.elim h
  | succ fu ih =>
  intro r u u1 u2 order place nodes unique memo q0 k0 g0 q1 k1 g1 q2 k2 g2 q3 k3 g3 q4 k4 g4 q5 k5 g5 q6 k6 g6 q7 k7 g7 q8 k8 g8 q9 k9 g9 q10 k10 g10 q11 k11 g11 hdk Q S R h hQ
  rw [decision_Table__Compose_1__e_W] at h
  refine enterT Try.func192 rfl Try.ntmps192 Try.results192 (by kernel_rfl) (fun rg hrg => ?_)
  have hdx : DX [(q5, k5, .arr 5 [.agg [.sl 1 q7 k7 g7 0 order.length, .sl 1 q8 k8 g8 0 place.length, .sl 3 q9 k9 g9 0 nodes.length, .map q10 k10 g10, .map q11 k11 g11]], g5), (q6, k6, mapE (AV.int .i64) (.one .i64) u2, g6), (q9, k9, .arr 3 (List.map eDNode nodes), g9), (q10, k10, mapE (AV.int .i64) (.many [.i64, .i64, .i64]) unique, g10), (q11, k11, mapE (AV.int .i64) (.many [.i64, .i64, .i64]) memo, g11), (q0, k0, .arr 1 [.ptr q5 k5 g5 0 0], g0), (q1, k1, .arr 1 [.int .i64 u], g1), (q2, k2, .arr 1 [.map q6 k6 g6], g2), (q3, k3, .arr 1 [.int .i64 u1], g3), (q4, k4, .arr 1 [.fn (.func 192) [] [.ptr q0 k0 g0 0 0, .ptr q1 k1 g1 0 0, .ptr q2 k2 g2 0 0, .ptr q3 k3 g3 0 0, .ptr q4 k4 g4 0 0]], g4), (q7, k7, .arr 1 (List.map (AV.int .i64) order), g7), (q8, k8, .arr 1 (List.map (AV.int .i64) place), g8)] := hdk
  have hfr := fun X' e => fresh_set (S := S) (rg := rg) (X := [(q5, k5, .arr 5 [.agg [.sl 1 q7 k7 g7 0 order.length, .sl 1 q8 k8 g8 0 place.length, .sl 3 q9 k9 g9 0 nodes.length, .map q10 k10 g10, .map q11 k11 g11]], g5), (q6, k6, mapE (AV.int .i64) (.one .i64) u2, g6), (q9, k9, .arr 3 (List.map eDNode nodes), g9), (q10, k10, mapE (AV.int .i64) (.many [.i64, .i64, .i64]) unique, g10), (q11, k11, mapE (AV.int .i64) (.many [.i64, .i64, .i64]) memo, g11), (q0, k0, .arr 1 [.ptr q5 k5 g5 0 0], g0), (q1, k1, .arr 1 [.int .i64 u], g1), (q2, k2, .arr 1 [.map q6 k6 g6], g2), (q3, k3, .arr 1 [.int .i64 u1], g3), (q4, k4, .arr 1 [.fn (.func 192) [] [.ptr q0 k0 g0 0 0, .ptr q1 k1 g1 0 0, .ptr q2 k2 g2 0 0, .ptr q3 k3 g3 0 0, .ptr q4 k4 g4 0 0]], g4), (q7, k7, .arr 1 (List.map (AV.int .i64) order), g7), (q8, k8, .arr 1 (List.map (AV.int .i64) place), g8)]) (X' := X') e hrg
  have hne5 := fresh_ne hdx hrg 0 rfl
  have hne6 := fresh_ne hdx hrg 1 rfl
  have hne9 := fresh_ne hdx hrg 2 rfl
  have hne10 := fresh_ne hdx hrg 3 rfl
  have hne11 := fresh_ne hdx hrg 4 rfl
  have hne0 := fresh_ne hdx hrg 5 rfl
  have hne1 := fresh_ne hdx hrg 6 rfl
  have hne2 := fresh_ne hdx hrg 7 rfl
  have hne3 := fresh_ne hdx hrg 8 rfl
  have hne4 := fresh_ne hdx hrg 9 rfl
  have hne7 := fresh_ne hdx hrg 10 rfl
  have hne8 := fresh_ne hdx hrg 11 rfl
  refine qZ (rZ (asZ (.int .i64 0) rfl (nZ (qZ (qZ ?_)))))
  obtain ⟨r1, hc, h⟩ := h
  have hi := h.1
  replace h := h.2
  refine Vc.drawn' mixed rg (usOf [(2, wc (fun _ => .int .i64 r1) [(q5, k5), (q7, k7), (q8, k8), (q9, k9), (q10, k10), (q11, k11)] [] (fun _ => []))]) (by kernel_rfl) ?_
  refine dL (E := ([(q0, k0)], [])) rfl rfl (by simp) (cfn) (o_loadB1 (atX hne0 hdx 5 rfl) sz128 ag128 rfl rfl (v := .ptr q5 k5 g5 0 0) rfl (dP rfl rfl (o_move (v := .int .i64 r) rfl ?_)))
  refine dCE (vs := [.ptr q5 k5 g5 0 0, AV.int .i64 r]) (V := fun _ => .int .i64 r1) (rd := [(q5, k5), (q7, k7), (q8, k8), (q9, k9), (q10, k10), (q11, k11)]) (wk := []) (wr := fun _ => []) rfl (vl' vr (vl' vr (vn))) rfl (cfo (by kernel_rfl) (cfn)) (by simp) (fun _ => rfl) (fun S' hA hB => ctrX (sx_c (ag hA 0 rfl (atX hne5 hdx 0 rfl)) (sx_c (ag hA 1 rfl (atX hne7 hdx 10 rfl)) (sx_c (ag hA 2 rfl (atX hne8 hdx 11 rfl)) (sx_c (ag hA 3 rfl (atX hne9 hdx 2 rfl)) (sx_c (ag hA 4 rfl (atX hne10 hdx 3 rfl)) (sx_c (ag hA 5 rfl (atX hne11 hdx 4 rfl)) (sx_n))))))) (decision_Table__level__e_ctr (dk_c (ni_c (dk_at 0 10 hdk rfl rfl rfl) (ni_c (dk_at 0 11 hdk rfl rfl rfl) (ni_c (dk_at 0 2 hdk rfl rfl rfl) (ni_c (dk_at 0 3 hdk rfl rfl rfl) (ni_c (dk_at 0 4 hdk rfl rfl rfl) (ni_n)))))) (dk_c (ni_c (dk_at 10 11 hdk rfl rfl rfl) (ni_c (ni_s (dk_at 2 10 hdk rfl rfl rfl)) (ni_c (ni_s (dk_at 3 10 hdk rfl rfl rfl)) (ni_c (ni_s (dk_at 4 10 hdk rfl rfl rfl)) (ni_n))))) (dk_c (ni_c (ni_s (dk_at 2 11 hdk rfl rfl rfl)) (ni_c (ni_s (dk_at 3 11 hdk rfl rfl rfl)) (ni_c (ni_s (dk_at 4 11 hdk rfl rfl rfl)) (ni_n)))) (dk_c (ni_c (dk_at 2 3 hdk rfl rfl rfl) (ni_c (dk_at 2 4 hdk rfl rfl rfl) (ni_n))) (dk_c (ni_c (dk_at 3 4 hdk rfl rfl rfl) (ni_n)) (dk_c (ni_n) (dk_n))))))) hc (fun _ he => by obtain rfl := he; exact ⟨fun i => ([] : List Nat).getD i 0, rfl, sx_c (ag hA 0 rfl (atX hne5 hdx 0 rfl)) (sx_c (ag hA 1 rfl (atX hne7 hdx 10 rfl)) (sx_c (ag hA 2 rfl (atX hne8 hdx 11 rfl)) (sx_c (ag hA 3 rfl (atX hne9 hdx 2 rfl)) (sx_c (ag hA 4 rfl (atX hne10 hdx 3 rfl)) (sx_c (ag hA 5 rfl (atX hne11 hdx 4 rfl)) (sx_n))))))⟩))) (fun _ => ?_)
  refine vdT.eqS (sa_n) ?_
  refine dL (E := ([(q0, k0)], [])) rfl rfl (by simp) (cfa (by simp [apartE]) (cfa (by simp [apartE]) (cfn))) (o_loadB1 (atX hne0 hdx 5 rfl) sz128 ag128 rfl rfl (v := .ptr q5 k5 g5 0 0) rfl (dP rfl rfl (o_nilP rfl (dP rfl rfl (o_faP td196 rfl rfl (by rw [sz22]; decide) rfl ?_)))))
  refine dL (E := ([(q5, k5)], [])) rfl rfl (by simp) (cfo (by kernel_rfl) (cfa (by simp [apartE]) (cfa (by simp [apartE]) (cfn)))) (o_loadB1 (atX hne5 hdx 0 rfl) sz22 ag22 rfl rfl (v := .sl 1 q8 k8 g8 0 place.length) rfl ?_)
  refine dL (E := ([(q1, k1)], [])) rfl rfl (by simp) (cfa (by simp [apartE]) (cfa (by simp [apartE]) (cfa (by simp [apartE]) (cfa (by simp [apartE]) (cfn))))) (o_loadB1 (atX hne1 hdx 6 rfl) sz3 ag3 rfl rfl (v := .int .i64 u) rfl (dP rfl rfl (o_idxR0 td22 sz3 (by decide) rfl rfl hi ?_)))
  refine dL (E := ([(q8, k8)], [])) rfl rfl (by simp) (cfo (by kernel_rfl) (cfo (by kernel_rfl) (cfo (by kernel_rfl) (cfa (by simp [apartE]) (cfa (by simp [apartE]) (cfn)))))) (o_loadR1 (atX hne8 hdx 11 rfl) sz3 ag3 rfl (lt_of hi (by first | rfl | omega | (simp only [go_sem] <;> omega))) rfl (v := .int .i64 (at' place u)) rfl (dP rfl rfl (o_gtr rfl rfl (dN ?_))))
  refine Vc.cond' rfl (fun hb => ?_) (fun hb => ?_)
  · replace h := h.1 hb
    refine qZ (rZ (mvZ (.int .i64 r) rfl (asZ (.int .i64 r) rfl (nZ ?_))))
    refine Vc.ret' ?_
    refine res_tmp (v := .int .i64 r) rfl (res_nil ?_)
    show Gives _ (.int .i64 r) _
    exact gives_out (hfr _ rfl) (VW.refl _) (hQ _ _ _ _ _ _ h)
  replace h := h.2 hb
  refine Vc.skip' ?_
  refine qZ (qZ (rZ (wZ rg (o_loadB1 (atX hne2 hdx 7 rfl) sz199 ag199 rfl rfl (v := .map q6 k6 g6) rfl (mvZ (.int .i64 r) rfl (wZ rg (o_lookup2 (atX hne6 hdx 1 rfl) td199 ksh3 ok3 (z := 0) zav3 rfl rfl (mvZ (.tuple [.int .i64 (Option.getD (mget u2 [r]) 0), .bool (Option.isSome (mget u2 [r]))]) rfl (wZ rg (o_extract (v := .int .i64 (Option.getD (mget u2 [r]) 0)) rfl rfl rfl ?_))))))))))
  refine wZ rg (o_extract (v := .bool (Option.isSome (mget u2 [r]))) rfl rfl rfl (asZ (.int .i64 (Option.getD (mget u2 [r]) 0)) rfl (asZ (.bool (Option.isSome (mget u2 [r]))) rfl (nZ (qZ (rZ (mvZ (.bool (Option.isSome (mget u2 [r]))) rfl (nZ ?_))))))))
  refine Vc.cond' rfl (fun hb1 => ?_) (fun hb1 => ?_)
  · replace h := h.1 hb1
    refine qZ (rZ (mvZ (.int .i64 (Option.getD (mget u2 [r]) 0)) rfl (asZ (.int .i64 (Option.getD (mget u2 [r]) 0)) rfl (nZ ?_))))
    refine Vc.ret' ?_
    refine res_tmp (v := .int .i64 (Option.getD (mget u2 [r]) 0)) rfl (res_nil ?_)
    show Gives _ (.int .i64 (Option.getD (mget u2 [r]) 0)) _
    exact gives_out (hfr _ rfl) (VW.refl _) (hQ _ _ _ _ _ _ h)
  replace h := h.2 hb1
  refine Vc.skip' ?_
  refine qZ (rZ (wZ rg (o_loadB1 (atX hne0 hdx 5 rfl) sz128 ag128 rfl rfl (v := .ptr q5 k5 g5 0 0) rfl (wZ rg (o_nilP rfl (wZ rg (o_faP td196 rfl rfl (by rw [sz23]; decide) rfl (wZ rg (o_loadB1 (atX hne5 hdx 0 rfl) sz23 ag23 rfl rfl (v := .sl 3 q9 k9 g9 0 nodes.length) rfl (mvZ (.int .i64 r) rfl (wZ rg (o_subG rfl rfl h.1 ?_))))))))))))
  replace h := h.2
  refine wZ rg (o_idxR0 td23 sz134 (by decide) rfl rfl h.1 ?_)
  have hi1 := h.1
  replace h := h.2
  refine wZ rg (o_loadRA (atX hne9 hdx 2 rfl) sz134 (by decide) ag134 rfl (lt_of hi1 (by first | rfl | omega | (simp only [go_sem] <;> omega))) rfl (v := eDNode (at' nodes (r - 2))) rfl (wZ rg (o_alloc zav134 ok134 (kk := 3) rfl (fun g12 => (wZ rg (o_storeB (atL (k := 10) rfl) sz134 (by decide) rfl (w := eDNode (at' nodes (r - 2))) rfl rfl rfl (v := eDNode (at' nodes (r - 2))) rfl setL (nZ (qZ (rZ ?_)))))))))
  refine asZ (.int .i64 0) rfl (nZ ?_)
  obtain ⟨J, h, hJ⟩ := h
  refine Vc.join' (σ := ((Int × (GMap Int) × (List GDNode) × (GMap Int) × (GMap Int)) × (Nat))) (fun y => J y.1) (fun y => envOf [(0, .int .i64 r), (3, .ptr q2 k2 g2 0 0), (11, .int .i64 y.1.1)]) (fun y => stL (stX S [(q5, k5, .arr 5 [.agg [.sl 1 q7 k7 g7 0 order.length, .sl 1 q8 k8 g8 0 place.length, .sl 3 q9 k9 y.2 0 y.1.2.2.1.length, .map q10 k10 g10, .map q11 k11 g11]], g5), (q6, k6, mapE (AV.int .i64) (.one .i64) y.1.2.1, g6), (q9, k9, .arr 3 (List.map eDNode y.1.2.2.1), y.2), (q10, k10, mapE (AV.int .i64) (.many [.i64, .i64, .i64]) y.1.2.2.2.1, g10), (q11, k11, mapE (AV.int .i64) (.many [.i64, .i64, .i64]) y.1.2.2.2.2, g11), (q0, k0, .arr 1 [.ptr q5 k5 g5 0 0], g0), (q1, k1, .arr 1 [.int .i64 u], g1), (q2, k2, .arr 1 [.map q6 k6 g6], g2), (q3, k3, .arr 1 [.int .i64 u1], g3), (q4, k4, .arr 1 [.fn (.func 192) [] [.ptr q0 k0 g0 0 0, .ptr q1 k1 g1 0 0, .ptr q2 k2 g2 0 0, .ptr q3 k3 g3 0 0, .ptr q4 k4 g4 0 0]], g4), (q7, k7, .arr 1 (List.map (AV.int .i64) order), g7), (q8, k8, .arr 1 (List.map (AV.int .i64) place), g8)]) rg []) (fun y h => ?_) ?_
  · obtain ⟨⟨x, x1, x2, x3, x4⟩, g13⟩ := y
    replace h := hJ (x, x1, x2, x3, x4) h
    show Vc _ _ _ _ (envOf [(0, .int .i64 r), (3, .ptr q2 k2 g2 0 0), (11, .int .i64 x)]) (stL (stX S [(q5, k5, .arr 5 [.agg [.sl 1 q7 k7 g7 0 order.length, .sl 1 q8 k8 g8 0 place.length, .sl 3 q9 k9 g13 0 x2.length, .map q10 k10 g10, .map q11 k11 g11]], g5), (q6, k6, mapE (AV.int .i64) (.one .i64) x1, g6), (q9, k9, .arr 3 (List.map eDNode x2), g13), (q10, k10, mapE (AV.int .i64) (.many [.i64, .i64, .i64]) x3, g10), (q11, k11, mapE (AV.int .i64) (.many [.i64, .i64, .i64]) x4, g11), (q0, k0, .arr 1 [.ptr q5 k5 g5 0 0], g0), (q1, k1, .arr 1 [.int .i64 u], g1), (q2, k2, .arr 1 [.map q6 k6 g6], g2), (q3, k3, .arr 1 [.int .i64 u1], g3), (q4, k4, .arr 1 [.fn (.func 192) [] [.ptr q0 k0 g0 0 0, .ptr q1 k1 g1 0 0, .ptr q2 k2 g2 0 0, .ptr q3 k3 g3 0 0, .ptr q4 k4 g4 0 0]], g4), (q7, k7, .arr 1 (List.map (AV.int .i64) order), g7), (q8, k8, .arr 1 (List.map (AV.int .i64) place), g8)]) rg [])
    refine qZ (rZ (wZ rg (o_loadB1 (atX hne2 hdx 7 rfl) sz199 ag199 rfl rfl (v := .map q6 k6 g6) rfl (mvZ (.int .i64 r) rfl (mvZ (.int .i64 x) rfl (wZ rg (o_mapUpd (v := x) (atX hne6 hdx 1 rfl) td199 ksh3 rfl rfl rfl (setX hne6 hdx 1 rfl rfl) (nZ (qZ (rZ (mvZ (.int .i64 x) rfl (asZ (.int .i64 x) rfl (nZ ?_)))))))))))))
    refine Vc.ret' ?_
    refine res_tmp (v := .int .i64 x) rfl (res_nil ?_)
    show Gives _ (.int .i64 x) _
    exact gives_out (hfr _ rfl) (VW.refl _) (hQ _ _ _ _ _ _ h)
  refine qZ (rZ (wZ rg (o_faP td134 rfl rfl (by rw [sz3]; decide) rfl (wZ rg (o_loadB1 (atL (k := 10) rfl) sz3 ag3 rfl rfl (v := .int .i64 ((at' nodes (r - 2)).Var)) rfl (wZ rg (o_loadB1 (atX hne1 hdx 6 rfl) sz3 ag3 rfl rfl (v := .int .i64 u) rfl (wZ rg (o_eql rfl rfl (nZ ?_))))))))))
  refine Vc.cond' rfl (fun hb2 => ?_) (fun hb2 => ?_)
  · replace h := h.1 hb2
    refine rZ ?_
    refine wZ rg (o_loadB1 (atX hne0 hdx 5 rfl) sz128 ag128 rfl rfl (v := .ptr q5 k5 g5 0 0) rfl (wZ rg (o_loadB1 (atX hne3 hdx 8 rfl) sz3 ag3 rfl rfl (v := .int .i64 u1) rfl (wZ rg (o_faP td134 rfl rfl (by rw [sz3]; decide) rfl (wZ rg (o_loadB1 (atL (k := 10) rfl) sz3 ag3 rfl rfl (v := .int .i64 ((at' nodes (r - 2)).Hi)) rfl (wZ rg (o_faP td134 rfl rfl (by rw [sz3]; decide) rfl ?_)))))))))
    refine wZ rg (o_loadB1 (atL (k := 10) rfl) sz3 ag3 rfl rfl (v := .int .i64 ((at' nodes (r - 2)).Lo)) rfl ?_)
    obtain ⟨_, h⟩ := h
    refine wZ rg (o_call (us := [.ptr q5 k5 g5 0 0, AV.int .i64 u1, AV.int .i64 ((at' nodes (r - 2)).Hi), AV.int .i64 ((at' nodes (r - 2)).Lo)]) rfl (vl' vr (vl' vr (vl' vr (vl' vr (vn))))) (ctrX (sx_c (atX hne5 hdx 0 rfl) (sx_c (atX hne9 hdx 2 rfl) (sx_c (atX hne10 hdx 3 rfl) (sx_c (atX hne11 hdx 4 rfl) (sx_c (atX hne7 hdx 10 rfl) (sx_c (atX hne8 hdx 11 rfl) (sx_n))))))) (decision_Table__Choose__e_ctr (dk_c (ni_c (dk_at 0 2 hdk rfl rfl rfl) (ni_c (dk_at 0 3 hdk rfl rfl rfl) (ni_c (dk_at 0 4 hdk rfl rfl rfl) (ni_c (dk_at 0 10 hdk rfl rfl rfl) (ni_c (dk_at 0 11 hdk rfl rfl rfl) (ni_n)))))) (dk_c (ni_c (dk_at 2 3 hdk rfl rfl rfl) (ni_c (dk_at 2 4 hdk rfl rfl rfl) (ni_c (dk_at 2 10 hdk rfl rfl rfl) (ni_c (dk_at 2 11 hdk rfl rfl rfl) (ni_n))))) (dk_c (ni_c (dk_at 3 4 hdk rfl rfl rfl) (ni_c (dk_at 3 10 hdk rfl rfl rfl) (ni_c (dk_at 3 11 hdk rfl rfl rfl) (ni_n)))) (dk_c (ni_c (dk_at 4 10 hdk rfl rfl rfl) (ni_c (dk_at 4 11 hdk rfl rfl rfl) (ni_n))) (dk_c (ni_c (dk_at 10 11 hdk rfl rfl rfl) (ni_n)) (dk_c (ni_n) (dk_n))))))) h fun u3 u4 u5 x5 g14 h => ?_)))
    refine Wl.eqS (sy_c (sy_c (sy_c (sy_c (sx_c (atX hne7 hdx 10 rfl) (sx_c (atX hne8 hdx 11 rfl) (sx_n))) (setX hne11 hdx 4 rfl rfl)) (setX hne10 hdx 3 rfl rfl)) (setX hne9 hdx 2 rfl rfl)) (setX hne5 hdx 0 rfl rfl)) ?_
    refine asZ (.int .i64 x5) rfl (nZ ?_)
    exact ⟨((x5, u2, u3, u4, u5), g14), (canon (fc vr (fc vr (fc vr (fn)))) (sn)), h⟩
  replace h := h.2 hb2
  obtain ⟨u6, u7, r2, hc1, h⟩ := h
  obtain ⟨u8, u9, u10, u11, r3, hc2, h⟩ := h
  obtain ⟨u12, u13, u14, u15, r4, hc3, h⟩ := h
  obtain ⟨u16, u17, u18, x6, hc4, h⟩ := h
  obtain ⟨_, hc4⟩ := hc4
  refine Vc.drawn' mixed rg (usOf [(4, wc (fun _ => .int .i64 r2) [(q7, k7), (q8, k8), (q11, k11)] [(q5, k5), (q9, k9), (q10, k10)] (fun gm1 => [(q5, k5, .arr 5 [.agg [.sl 1 q7 k7 g7 0 order.length, .sl 1 q8 k8 g8 0 place.length, .sl 3 q9 k9 (gm1 0) 0 u6.length, .map q10 k10 g10, .map q11 k11 g11]], g5), (q9, k9, .arr 3 (List.map eDNode u6), (gm1 0)), (q10, k10, mapE (AV.int .i64) (.many [.i64, .i64, .i64]) u7, g10)])), (8, wc (fun _ => .int .i64 r3) [(q0, k0), (q1, k1), (q2, k2), (q3, k3), (q4, k4), (q7, k7), (q8, k8)] [(q5, k5), (q6, k6), (q9, k9), (q10, k10), (q11, k11)] (fun gm2 => [(q5, k5, .arr 5 [.agg [.sl 1 q7 k7 g7 0 order.length, .sl 1 q8 k8 g8 0 place.length, .sl 3 q9 k9 (gm2 0) 0 u9.length, .map q10 k10 g10, .map q11 k11 g11]], g5), (q6, k6, mapE (AV.int .i64) (.one .i64) u8, g6), (q9, k9, .arr 3 (List.map eDNode u9), (gm2 0)), (q10, k10, mapE (AV.int .i64) (.many [.i64, .i64, .i64]) u10, g10), (q11, k11, mapE (AV.int .i64) (.many [.i64, .i64, .i64]) u11, g11)])), (12, wc (fun _ => .int .i64 r4) [(q0, k0), (q1, k1), (q2, k2), (q3, k3), (q4, k4), (q7, k7), (q8, k8)] [(q5, k5), (q6, k6), (q9, k9), (q10, k10), (q11, k11)] (fun gm3 => [(q5, k5, .arr 5 [.agg [.sl 1 q7 k7 g7 0 order.length, .sl 1 q8 k8 g8 0 place.length, .sl 3 q9 k9 (gm3 0) 0 u13.length, .map q10 k10 g10, .map q11 k11 g11]], g5), (q6, k6, mapE (AV.int .i64) (.one .i64) u12, g6), (q9, k9, .arr 3 (List.map eDNode u13), (gm3 0)), (q10, k10, mapE (AV.int .i64) (.many [.i64, .i64, .i64]) u14, g10), (q11, k11, mapE (AV.int .i64) (.many [.i64, .i64, .i64]) u15, g11)])), (13, wc (fun _ => .int .i64 x6) [(q7, k7), (q8, k8)] [(q5, k5), (q9, k9), (q10, k10), (q11, k11)] (fun gm4 => [(q5, k5, .arr 5 [.agg [.sl 1 q7 k7 g7 0 order.length, .sl 1 q8 k8 g8 0 place.length, .sl 3 q9 k9 (gm4 0) 0 u16.length, .map q10 k10 g10, .map q11 k11 g11]], g5), (q9, k9, .arr 3 (List.map eDNode u16), (gm4 0)), (q10, k10, mapE (AV.int .i64) (.many [.i64, .i64, .i64]) u17, g10), (q11, k11, mapE (AV.int .i64) (.many [.i64, .i64, .i64]) u18, g11)]))]) (by kernel_rfl) ?_
  refine dL (E := ([(q0, k0)], [])) rfl rfl (by simp) (cfn) (o_loadB1 (atX hne0 hdx 5 rfl) sz128 ag128 rfl rfl (v := .ptr q5 k5 g5 0 0) rfl (dL (E := ([(q0, k0)], [])) rfl rfl (by simp) (cfa (by simp [apartE]) (cfn)) (o_loadB1 (atX hne0 hdx 5 rfl) sz128 ag128 rfl rfl (v := .ptr q5 k5 g5 0 0) rfl (dP rfl rfl (o_faP td134 rfl rfl (by rw [sz3]; decide) rfl ?_)))))
  refine dL (E := ([(rg, 10)], [])) rfl rfl (by simp) (cfa (by simp [apartE]) (cfa (by simp [apartE]) (cfn))) (o_loadB1 (atL (k := 10) rfl) sz3 ag3 rfl rfl (v := .int .i64 ((at' nodes (r - 2)).Var)) rfl ?_)
  refine dCE (vs := [.ptr q5 k5 g5 0 0, AV.int .i64 ((at' nodes (r - 2)).Var)]) (V := fun _ => .int .i64 r2) (rd := [(q7, k7), (q8, k8), (q11, k11)]) (wk := [(q5, k5), (q9, k9), (q10, k10)]) (wr := fun gm1 => [(q5, k5, .arr 5 [.agg [.sl 1 q7 k7 g7 0 order.length, .sl 1 q8 k8 g8 0 place.length, .sl 3 q9 k9 (gm1 0) 0 u6.length, .map q10 k10 g10, .map q11 k11 g11]], g5), (q9, k9, .arr 3 (List.map eDNode u6), (gm1 0)), (q10, k10, mapE (AV.int .i64) (.many [.i64, .i64, .i64]) u7, g10)]) rfl (vl' vr (vl' vr (vn))) rfl (cfo (by kernel_rfl) (cfo (by kernel_rfl) (cfa (by simp [apartE, dk_ne' (dk_at 0 5 hdk rfl rfl rfl), dk_ne' (dk_at 2 5 hdk rfl rfl rfl), dk_ne' (dk_at 3 5 hdk rfl rfl rfl)]) (cfn)))) (by simp) (fun _ => rfl) (fun S' hA hB => ctrX (sx_c (ag hB 0 rfl (atX hne5 hdx 0 rfl)) (sx_c (ag hB 1 rfl (atX hne9 hdx 2 rfl)) (sx_c (ag hB 2 rfl (atX hne10 hdx 3 rfl)) (sx_c (ag hA 0 rfl (atX hne7 hdx 10 rfl)) (sx_c (ag hA 1 rfl (atX hne8 hdx 11 rfl)) (sx_c (ag hA 2 rfl (atX hne11 hdx 4 rfl)) (sx_n))))))) (decision_Table__Event__e_ctr (dk_c (ni_c (dk_at 0 2 hdk rfl rfl rfl) (ni_c (dk_at 0 3 hdk rfl rfl rfl) (ni_c (dk_at 0 10 hdk rfl rfl rfl) (ni_c (dk_at 0 11 hdk rfl rfl rfl) (ni_c (dk_at 0 4 hdk rfl rfl rfl) (ni_n)))))) (dk_c (ni_c (dk_at 2 3 hdk rfl rfl rfl) (ni_c (dk_at 2 10 hdk rfl rfl rfl) (ni_c (dk_at 2 11 hdk rfl rfl rfl) (ni_c (dk_at 2 4 hdk rfl rfl rfl) (ni_n))))) (dk_c (ni_c (dk_at 3 10 hdk rfl rfl rfl) (ni_c (dk_at 3 11 hdk rfl rfl rfl) (ni_c (dk_at 3 4 hdk rfl rfl rfl) (ni_n)))) (dk_c (ni_c (dk_at 10 11 hdk rfl rfl rfl) (ni_c (ni_s (dk_at 4 10 hdk rfl rfl rfl)) (ni_n))) (dk_c (ni_c (ni_s (dk_at 4 11 hdk rfl rfl rfl)) (ni_n)) (dk_c (ni_n) (dk_n))))))) hc1 (fun _ _ _ h3 he => by obtain ⟨rfl, rfl, rfl⟩ := he; exact ⟨fun i => [h3].getD i 0, rfl, sm_c (sm_c (sm_c (sx_c (ag hA 0 rfl (atX hne7 hdx 10 rfl)) (sx_c (ag hA 1 rfl (atX hne8 hdx 11 rfl)) (sx_c (ag hA 2 rfl (atX hne11 hdx 4 rfl)) (sx_n))))))⟩))) (fun gm1 => ?_)
  refine vdT.eqS (sa_c (sa_c (sa_c (sa_n) (setX hne10 hdx 3 rfl rfl)) (setX hne9 hdx 2 rfl rfl)) (setX hne5 hdx 0 rfl rfl)) ?_
  refine dL (E := ([(q4, k4)], [])) rfl rfl (by simp) (cfa (by simp [apartE, dk_ne' (dk_at 0 9 hdk rfl rfl rfl), dk_ne' (dk_at 2 9 hdk rfl rfl rfl), dk_ne' (dk_at 3 9 hdk rfl rfl rfl)]) (cfa (by simp [apartE]) (cfa (by simp [apartE]) (cfa (by simp [apartE]) (cfn))))) (o_loadB1 (atX hne4 hdx 9 rfl) sz132 ag132 rfl rfl (v := .fn (.func 192) [] [.ptr q0 k0 g0 0 0, .ptr q1 k1 g1 0 0, .ptr q2 k2 g2 0 0, .ptr q3 k3 g3 0 0, .ptr q4 k4 g4 0 0]) rfl ?_)
  refine dP rfl rfl (o_faP td134 rfl rfl (by rw [sz3]; decide) rfl (dL (E := ([(rg, 10)], [])) rfl rfl (by simp) (cfa (by simp [apartE]) (cfa (by simp [apartE, hne5, hne9, hne10]) (cfa (by simp [apartE]) (cfa (by simp [apartE]) (cfa (by simp [apartE]) (cfn)))))) (o_loadB1 (atL (k := 10) rfl) sz3 ag3 rfl rfl (v := .int .i64 ((at' nodes (r - 2)).Hi)) rfl ?_)))
  refine dCE (vs := [AV.int .i64 ((at' nodes (r - 2)).Hi), .ptr q0 k0 g0 0 0, .ptr q1 k1 g1 0 0, .ptr q2 k2 g2 0 0, .ptr q3 k3 g3 0 0, .ptr q4 k4 g4 0 0]) (V := fun _ => .int .i64 r3) (rd := [(q0, k0), (q1, k1), (q2, k2), (q3, k3), (q4, k4), (q7, k7), (q8, k8)]) (wk := [(q5, k5), (q6, k6), (q9, k9), (q10, k10), (q11, k11)]) (wr := fun gm2 => [(q5, k5, .arr 5 [.agg [.sl 1 q7 k7 g7 0 order.length, .sl 1 q8 k8 g8 0 place.length, .sl 3 q9 k9 (gm2 0) 0 u9.length, .map q10 k10 g10, .map q11 k11 g11]], g5), (q6, k6, mapE (AV.int .i64) (.one .i64) u8, g6), (q9, k9, .arr 3 (List.map eDNode u9), (gm2 0)), (q10, k10, mapE (AV.int .i64) (.many [.i64, .i64, .i64]) u10, g10), (q11, k11, mapE (AV.int .i64) (.many [.i64, .i64, .i64]) u11, g11)]) rfl (vl' vr (vl' vr (vl' vr (vl' vr (vl' vr (vl' vr (vn))))))) rfl (cfo (by kernel_rfl) (cfo (by kernel_rfl) (cfo (by kernel_rfl) (cfo (by kernel_rfl) (cfo (by kernel_rfl) (cfa (by simp [apartE, dk_ne' (dk_at 0 5 hdk rfl rfl rfl), dk_ne' (dk_at 1 5 hdk rfl rfl rfl), dk_ne' (dk_at 2 5 hdk rfl rfl rfl), dk_ne' (dk_at 3 5 hdk rfl rfl rfl), dk_ne' (dk_at 4 5 hdk rfl rfl rfl)]) (cfn))))))) (by simp) (fun _ => rfl) (fun S' hA hB => ctrX (sx_c (ag hB 0 rfl (atX hne5 hdx 0 rfl)) (sx_c (ag hB 1 rfl (atX hne6 hdx 1 rfl)) (sx_c (ag hB 2 rfl (atX hne9 hdx 2 rfl)) (sx_c (ag hB 3 rfl (atX hne10 hdx 3 rfl)) (sx_c (ag hB 4 rfl (atX hne11 hdx 4 rfl)) (sx_c (ag hA 0 rfl (atX hne0 hdx 5 rfl)) (sx_c (ag hA 1 rfl (atX hne1 hdx 6 rfl)) (sx_c (ag hA 2 rfl (atX hne2 hdx 7 rfl)) (sx_c (ag hA 3 rfl (atX hne3 hdx 8 rfl)) (sx_c (ag hA 4 rfl (atX hne4 hdx 9 rfl)) (sx_c (ag hA 5 rfl (atX hne7 hdx 10 rfl)) (sx_c (ag hA 6 rfl (atX hne8 hdx 11 rfl)) (sx_n))))))))))))) (ih (dk_c (ni_c (dk_at 0 1 hdk rfl rfl rfl) (ni_c (dk_at 0 2 hdk rfl rfl rfl) (ni_c (dk_at 0 3 hdk rfl rfl rfl) (ni_c (dk_at 0 4 hdk rfl rfl rfl) (ni_c (dk_at 0 5 hdk rfl rfl rfl) (ni_c (dk_at 0 6 hdk rfl rfl rfl) (ni_c (dk_at 0 7 hdk rfl rfl rfl) (ni_c (dk_at 0 8 hdk rfl rfl rfl) (ni_c (dk_at 0 9 hdk rfl rfl rfl) (ni_c (dk_at 0 10 hdk rfl rfl rfl) (ni_c (dk_at 0 11 hdk rfl rfl rfl) (ni_n)))))))))))) (dk_c (ni_c (dk_at 1 2 hdk rfl rfl rfl) (ni_c (dk_at 1 3 hdk rfl rfl rfl) (ni_c (dk_at 1 4 hdk rfl rfl rfl) (ni_c (dk_at 1 5 hdk rfl rfl rfl) (ni_c (dk_at 1 6 hdk rfl rfl rfl) (ni_c (dk_at 1 7 hdk rfl rfl rfl) (ni_c (dk_at 1 8 hdk rfl rfl rfl) (ni_c (dk_at 1 9 hdk rfl rfl rfl) (ni_c (dk_at 1 10 hdk rfl rfl rfl) (ni_c (dk_at 1 11 hdk rfl rfl rfl) (ni_n))))))))))) (dk_c (ni_c (dk_at 2 3 hdk rfl rfl rfl) (ni_c (dk_at 2 4 hdk rfl rfl rfl) (ni_c (dk_at 2 5 hdk rfl rfl rfl) (ni_c (dk_at 2 6 hdk rfl rfl rfl) (ni_c (dk_at 2 7 hdk rfl rfl rfl) (ni_c (dk_at 2 8 hdk rfl rfl rfl) (ni_c (dk_at 2 9 hdk rfl rfl rfl) (ni_c (dk_at 2 10 hdk rfl rfl rfl) (ni_c (dk_at 2 11 hdk rfl rfl rfl) (ni_n)))))))))) (dk_c (ni_c (dk_at 3 4 hdk rfl rfl rfl) (ni_c (dk_at 3 5 hdk rfl rfl rfl) (ni_c (dk_at 3 6 hdk rfl rfl rfl) (ni_c (dk_at 3 7 hdk rfl rfl rfl) (ni_c (dk_at 3 8 hdk rfl rfl rfl) (ni_c (dk_at 3 9 hdk rfl rfl rfl) (ni_c (dk_at 3 10 hdk rfl rfl rfl) (ni_c (dk_at 3 11 hdk rfl rfl rfl) (ni_n))))))))) (dk_c (ni_c (dk_at 4 5 hdk rfl rfl rfl) (ni_c (dk_at 4 6 hdk rfl rfl rfl) (ni_c (dk_at 4 7 hdk rfl rfl rfl) (ni_c (dk_at 4 8 hdk rfl rfl rfl) (ni_c (dk_at 4 9 hdk rfl rfl rfl) (ni_c (dk_at 4 10 hdk rfl rfl rfl) (ni_c (dk_at 4 11 hdk rfl rfl rfl) (ni_n)))))))) (dk_c (ni_c (dk_at 5 6 hdk rfl rfl rfl) (ni_c (dk_at 5 7 hdk rfl rfl rfl) (ni_c (dk_at 5 8 hdk rfl rfl rfl) (ni_c (dk_at 5 9 hdk rfl rfl rfl) (ni_c (dk_at 5 10 hdk rfl rfl rfl) (ni_c (dk_at 5 11 hdk rfl rfl rfl) (ni_n))))))) (dk_c (ni_c (dk_at 6 7 hdk rfl rfl rfl) (ni_c (dk_at 6 8 hdk rfl rfl rfl) (ni_c (dk_at 6 9 hdk rfl rfl rfl) (ni_c (dk_at 6 10 hdk rfl rfl rfl) (ni_c (dk_at 6 11 hdk rfl rfl rfl) (ni_n)))))) (dk_c (ni_c (dk_at 7 8 hdk rfl rfl rfl) (ni_c (dk_at 7 9 hdk rfl rfl rfl) (ni_c (dk_at 7 10 hdk rfl rfl rfl) (ni_c (dk_at 7 11 hdk rfl rfl rfl) (ni_n))))) (dk_c (ni_c (dk_at 8 9 hdk rfl rfl rfl) (ni_c (dk_at 8 10 hdk rfl rfl rfl) (ni_c (dk_at 8 11 hdk rfl rfl rfl) (ni_n)))) (dk_c (ni_c (dk_at 9 10 hdk rfl rfl rfl) (ni_c (dk_at 9 11 hdk rfl rfl rfl) (ni_n))) (dk_c (ni_c (dk_at 10 11 hdk rfl rfl rfl) (ni_n)) (dk_c (ni_n) (dk_n))))))))))))) hc2 (fun _ _ _ _ _ h9 he => by obtain ⟨rfl, rfl, rfl, rfl, rfl⟩ := he; exact ⟨fun i => [h9].getD i 0, rfl, sm_c (sm_c (sm_c (sm_c (sm_c (sx_c (ag hA 0 rfl (atX hne0 hdx 5 rfl)) (sx_c (ag hA 1 rfl (atX hne1 hdx 6 rfl)) (sx_c (ag hA 2 rfl (atX hne2 hdx 7 rfl)) (sx_c (ag hA 3 rfl (atX hne3 hdx 8 rfl)) (sx_c (ag hA 4 rfl (atX hne4 hdx 9 rfl)) (sx_c (ag hA 5 rfl (atX hne7 hdx 10 rfl)) (sx_c (ag hA 6 rfl (atX hne8 hdx 11 rfl)) (sx_n))))))))))))⟩))) (fun gm2 => ?_)
  refine vdT.eqS (sa_c (sa_c (sa_c (sa_c (sa_c (sa_n) (setX hne11 hdx 4 rfl rfl)) (setX hne10 hdx 3 rfl rfl)) (setX hne9 hdx 2 rfl rfl)) (setX hne6 hdx 1 rfl rfl)) (setX hne5 hdx 0 rfl rfl)) ?_
  refine dL (E := ([(q4, k4)], [])) rfl rfl (by simp) (cfa (by simp [apartE, dk_ne' (dk_at 0 9 hdk rfl rfl rfl), dk_ne' (dk_at 1 9 hdk rfl rfl rfl), dk_ne' (dk_at 2 9 hdk rfl rfl rfl), dk_ne' (dk_at 3 9 hdk rfl rfl rfl), dk_ne' (dk_at 4 9 hdk rfl rfl rfl)]) (cfa (by simp [apartE]) (cfa (by simp [apartE]) (cfa (by simp [apartE, dk_ne' (dk_at 0 9 hdk rfl rfl rfl), dk_ne' (dk_at 2 9 hdk rfl rfl rfl), dk_ne' (dk_at 3 9 hdk rfl rfl rfl)]) (cfa (by simp [apartE]) (cfa (by simp [apartE]) (cfa (by simp [apartE]) (cfn)))))))) (o_loadB1 (atX hne4 hdx 9 rfl) sz132 ag132 rfl rfl (v := .fn (.func 192) [] [.ptr q0 k0 g0 0 0, .ptr q1 k1 g1 0 0, .ptr q2 k2 g2 0 0, .ptr q3 k3 g3 0 0, .ptr q4 k4 g4 0 0]) rfl ?_)
  refine dP rfl rfl (o_faP td134 rfl rfl (by rw [sz3]; decide) rfl ?_)
  refine dL (E := ([(rg, 10)], [])) rfl rfl (by simp) (cfa (by simp [apartE]) (cfa (by simp [apartE, hne5, hne6, hne9, hne10, hne11]) (cfa (by simp [apartE]) (cfa (by simp [apartE]) (cfa (by simp [apartE, hne5, hne9, hne10]) (cfa (by simp [apartE]) (cfa (by simp [apartE]) (cfa (by simp [apartE]) (cfn))))))))) (o_loadB1 (atL (k := 10) rfl) sz3 ag3 rfl rfl (v := .int .i64 ((at' nodes (r - 2)).Lo)) rfl ?_)
  refine dCE (vs := [AV.int .i64 ((at' nodes (r - 2)).Lo), .ptr q0 k0 g0 0 0, .ptr q1 k1 g1 0 0, .ptr q2 k2 g2 0 0, .ptr q3 k3 g3 0 0, .ptr q4 k4 g4 0 0]) (V := fun _ => .int .i64 r4) (rd := [(q0, k0), (q1, k1), (q2, k2), (q3, k3), (q4, k4), (q7, k7), (q8, k8)]) (wk := [(q5, k5), (q6, k6), (q9, k9), (q10, k10), (q11, k11)]) (wr := fun gm3 => [(q5, k5, .arr 5 [.agg [.sl 1 q7 k7 g7 0 order.length, .sl 1 q8 k8 g8 0 place.length, .sl 3 q9 k9 (gm3 0) 0 u13.length, .map q10 k10 g10, .map q11 k11 g11]], g5), (q6, k6, mapE (AV.int .i64) (.one .i64) u12, g6), (q9, k9, .arr 3 (List.map eDNode u13), (gm3 0)), (q10, k10, mapE (AV.int .i64) (.many [.i64, .i64, .i64]) u14, g10), (q11, k11, mapE (AV.int .i64) (.many [.i64, .i64, .i64]) u15, g11)]) rfl (vl' vr (vl' vr (vl' vr (vl' vr (vl' vr (vl' vr (vn))))))) rfl (cfo (by kernel_rfl) (cfo (by kernel_rfl) (cfo (by kernel_rfl) (cfo (by kernel_rfl) (cfo (by kernel_rfl) (cfo (by kernel_rfl) (cfo (by kernel_rfl) (cfo (by kernel_rfl) (cfa (by simp [apartE, dk_ne' (dk_at 0 5 hdk rfl rfl rfl), dk_ne' (dk_at 1 5 hdk rfl rfl rfl), dk_ne' (dk_at 2 5 hdk rfl rfl rfl), dk_ne' (dk_at 3 5 hdk rfl rfl rfl), dk_ne' (dk_at 4 5 hdk rfl rfl rfl)]) (cfn)))))))))) (by simp) (fun _ => rfl) (fun S' hA hB => ctrX (sx_c (ag hB 0 rfl (atX hne5 hdx 0 rfl)) (sx_c (ag hB 1 rfl (atX hne6 hdx 1 rfl)) (sx_c (ag hB 2 rfl (atX hne9 hdx 2 rfl)) (sx_c (ag hB 3 rfl (atX hne10 hdx 3 rfl)) (sx_c (ag hB 4 rfl (atX hne11 hdx 4 rfl)) (sx_c (ag hA 0 rfl (atX hne0 hdx 5 rfl)) (sx_c (ag hA 1 rfl (atX hne1 hdx 6 rfl)) (sx_c (ag hA 2 rfl (atX hne2 hdx 7 rfl)) (sx_c (ag hA 3 rfl (atX hne3 hdx 8 rfl)) (sx_c (ag hA 4 rfl (atX hne4 hdx 9 rfl)) (sx_c (ag hA 5 rfl (atX hne7 hdx 10 rfl)) (sx_c (ag hA 6 rfl (atX hne8 hdx 11 rfl)) (sx_n))))))))))))) (ih (dk_c (ni_c (dk_at 0 1 hdk rfl rfl rfl) (ni_c (dk_at 0 2 hdk rfl rfl rfl) (ni_c (dk_at 0 3 hdk rfl rfl rfl) (ni_c (dk_at 0 4 hdk rfl rfl rfl) (ni_c (dk_at 0 5 hdk rfl rfl rfl) (ni_c (dk_at 0 6 hdk rfl rfl rfl) (ni_c (dk_at 0 7 hdk rfl rfl rfl) (ni_c (dk_at 0 8 hdk rfl rfl rfl) (ni_c (dk_at 0 9 hdk rfl rfl rfl) (ni_c (dk_at 0 10 hdk rfl rfl rfl) (ni_c (dk_at 0 11 hdk rfl rfl rfl) (ni_n)))))))))))) (dk_c (ni_c (dk_at 1 2 hdk rfl rfl rfl) (ni_c (dk_at 1 3 hdk rfl rfl rfl) (ni_c (dk_at 1 4 hdk rfl rfl rfl) (ni_c (dk_at 1 5 hdk rfl rfl rfl) (ni_c (dk_at 1 6 hdk rfl rfl rfl) (ni_c (dk_at 1 7 hdk rfl rfl rfl) (ni_c (dk_at 1 8 hdk rfl rfl rfl) (ni_c (dk_at 1 9 hdk rfl rfl rfl) (ni_c (dk_at 1 10 hdk rfl rfl rfl) (ni_c (dk_at 1 11 hdk rfl rfl rfl) (ni_n))))))))))) (dk_c (ni_c (dk_at 2 3 hdk rfl rfl rfl) (ni_c (dk_at 2 4 hdk rfl rfl rfl) (ni_c (dk_at 2 5 hdk rfl rfl rfl) (ni_c (dk_at 2 6 hdk rfl rfl rfl) (ni_c (dk_at 2 7 hdk rfl rfl rfl) (ni_c (dk_at 2 8 hdk rfl rfl rfl) (ni_c (dk_at 2 9 hdk rfl rfl rfl) (ni_c (dk_at 2 10 hdk rfl rfl rfl) (ni_c (dk_at 2 11 hdk rfl rfl rfl) (ni_n)))))))))) (dk_c (ni_c (dk_at 3 4 hdk rfl rfl rfl) (ni_c (dk_at 3 5 hdk rfl rfl rfl) (ni_c (dk_at 3 6 hdk rfl rfl rfl) (ni_c (dk_at 3 7 hdk rfl rfl rfl) (ni_c (dk_at 3 8 hdk rfl rfl rfl) (ni_c (dk_at 3 9 hdk rfl rfl rfl) (ni_c (dk_at 3 10 hdk rfl rfl rfl) (ni_c (dk_at 3 11 hdk rfl rfl rfl) (ni_n))))))))) (dk_c (ni_c (dk_at 4 5 hdk rfl rfl rfl) (ni_c (dk_at 4 6 hdk rfl rfl rfl) (ni_c (dk_at 4 7 hdk rfl rfl rfl) (ni_c (dk_at 4 8 hdk rfl rfl rfl) (ni_c (dk_at 4 9 hdk rfl rfl rfl) (ni_c (dk_at 4 10 hdk rfl rfl rfl) (ni_c (dk_at 4 11 hdk rfl rfl rfl) (ni_n)))))))) (dk_c (ni_c (dk_at 5 6 hdk rfl rfl rfl) (ni_c (dk_at 5 7 hdk rfl rfl rfl) (ni_c (dk_at 5 8 hdk rfl rfl rfl) (ni_c (dk_at 5 9 hdk rfl rfl rfl) (ni_c (dk_at 5 10 hdk rfl rfl rfl) (ni_c (dk_at 5 11 hdk rfl rfl rfl) (ni_n))))))) (dk_c (ni_c (dk_at 6 7 hdk rfl rfl rfl) (ni_c (dk_at 6 8 hdk rfl rfl rfl) (ni_c (dk_at 6 9 hdk rfl rfl rfl) (ni_c (dk_at 6 10 hdk rfl rfl rfl) (ni_c (dk_at 6 11 hdk rfl rfl rfl) (ni_n)))))) (dk_c (ni_c (dk_at 7 8 hdk rfl rfl rfl) (ni_c (dk_at 7 9 hdk rfl rfl rfl) (ni_c (dk_at 7 10 hdk rfl rfl rfl) (ni_c (dk_at 7 11 hdk rfl rfl rfl) (ni_n))))) (dk_c (ni_c (dk_at 8 9 hdk rfl rfl rfl) (ni_c (dk_at 8 10 hdk rfl rfl rfl) (ni_c (dk_at 8 11 hdk rfl rfl rfl) (ni_n)))) (dk_c (ni_c (dk_at 9 10 hdk rfl rfl rfl) (ni_c (dk_at 9 11 hdk rfl rfl rfl) (ni_n))) (dk_c (ni_c (dk_at 10 11 hdk rfl rfl rfl) (ni_n)) (dk_c (ni_n) (dk_n))))))))))))) hc3 (fun _ _ _ _ _ h9 he => by obtain ⟨rfl, rfl, rfl, rfl, rfl⟩ := he; exact ⟨fun i => [h9].getD i 0, rfl, sm_c (sm_c (sm_c (sm_c (sm_c (sx_c (ag hA 0 rfl (atX hne0 hdx 5 rfl)) (sx_c (ag hA 1 rfl (atX hne1 hdx 6 rfl)) (sx_c (ag hA 2 rfl (atX hne2 hdx 7 rfl)) (sx_c (ag hA 3 rfl (atX hne3 hdx 8 rfl)) (sx_c (ag hA 4 rfl (atX hne4 hdx 9 rfl)) (sx_c (ag hA 5 rfl (atX hne7 hdx 10 rfl)) (sx_c (ag hA 6 rfl (atX hne8 hdx 11 rfl)) (sx_n))))))))))))⟩))) (fun gm3 => ?_)
  refine vdT.eqS (sa_c (sa_c (sa_c (sa_c (sa_c (sa_n) (setX hne11 hdx 4 rfl rfl)) (setX hne10 hdx 3 rfl rfl)) (setX hne9 hdx 2 rfl rfl)) (setX hne6 hdx 1 rfl rfl)) (setX hne5 hdx 0 rfl rfl)) ?_
  refine dCE (vs := [.ptr q5 k5 g5 0 0, AV.int .i64 r2, AV.int .i64 r3, AV.int .i64 r4]) (V := fun _ => .int .i64 x6) (rd := [(q7, k7), (q8, k8)]) (wk := [(q5, k5), (q9, k9), (q10, k10), (q11, k11)]) (wr := fun gm4 => [(q5, k5, .arr 5 [.agg [.sl 1 q7 k7 g7 0 order.length, .sl 1 q8 k8 g8 0 place.length, .sl 3 q9 k9 (gm4 0) 0 u16.length, .map q10 k10 g10, .map q11 k11 g11]], g5), (q9, k9, .arr 3 (List.map eDNode u16), (gm4 0)), (q10, k10, mapE (AV.int .i64) (.many [.i64, .i64, .i64]) u17, g10), (q11, k11, mapE (AV.int .i64) (.many [.i64, .i64, .i64]) u18, g11)]) rfl (vl' vr (vl' vr (vl' vr (vl' vr (vn))))) rfl (cfo (by kernel_rfl) (cfo (by kernel_rfl) (cfo (by kernel_rfl) (cfo (by kernel_rfl) (cfo (by kernel_rfl) (cfo (by kernel_rfl) (cfo (by kernel_rfl) (cfo (by kernel_rfl) (cfo (by kernel_rfl) (cfo (by kernel_rfl) (cfn))))))))))) (by simp) (fun _ => rfl) (fun S' hA hB => ctrX (sx_c (ag hB 0 rfl (atX hne5 hdx 0 rfl)) (sx_c (ag hB 1 rfl (atX hne9 hdx 2 rfl)) (sx_c (ag hB 2 rfl (atX hne10 hdx 3 rfl)) (sx_c (ag hB 3 rfl (atX hne11 hdx 4 rfl)) (sx_c (ag hA 0 rfl (atX hne7 hdx 10 rfl)) (sx_c (ag hA 1 rfl (atX hne8 hdx 11 rfl)) (sx_n))))))) (decision_Table__Choose__e_ctr (dk_c (ni_c (dk_at 0 2 hdk rfl rfl rfl) (ni_c (dk_at 0 3 hdk rfl rfl rfl) (ni_c (dk_at 0 4 hdk rfl rfl rfl) (ni_c (dk_at 0 10 hdk rfl rfl rfl) (ni_c (dk_at 0 11 hdk rfl rfl rfl) (ni_n)))))) (dk_c (ni_c (dk_at 2 3 hdk rfl rfl rfl) (ni_c (dk_at 2 4 hdk rfl rfl rfl) (ni_c (dk_at 2 10 hdk rfl rfl rfl) (ni_c (dk_at 2 11 hdk rfl rfl rfl) (ni_n))))) (dk_c (ni_c (dk_at 3 4 hdk rfl rfl rfl) (ni_c (dk_at 3 10 hdk rfl rfl rfl) (ni_c (dk_at 3 11 hdk rfl rfl rfl) (ni_n)))) (dk_c (ni_c (dk_at 4 10 hdk rfl rfl rfl) (ni_c (dk_at 4 11 hdk rfl rfl rfl) (ni_n))) (dk_c (ni_c (dk_at 10 11 hdk rfl rfl rfl) (ni_n)) (dk_c (ni_n) (dk_n))))))) hc4 (fun _ _ _ _ h3 he => by obtain ⟨rfl, rfl, rfl, rfl⟩ := he; exact ⟨fun i => [h3].getD i 0, rfl, sm_c (sm_c (sm_c (sm_c (sx_c (ag hA 0 rfl (atX hne7 hdx 10 rfl)) (sx_c (ag hA 1 rfl (atX hne8 hdx 11 rfl)) (sx_n))))))⟩))) (fun gm4 => ?_)
  refine vdT.eqS (sa_c (sa_c (sa_c (sa_c (sa_n) (setX hne11 hdx 4 rfl rfl)) (setX hne10 hdx 3 rfl rfl)) (setX hne9 hdx 2 rfl rfl)) (setX hne5 hdx 0 rfl rfl)) ?_
  refine dP rfl rfl (o_assign (v := .int .i64 x6) rfl (dN ?_))
  exact ⟨((x6, u12, u16, u17, u18), (gm4 0)), (canon (fc vr (fc vr (fc vr (fn)))) (sn)), h⟩
theorem decision_Table__Compose__e_ctr {r : Int} {event : Int} {by1 : Int} {order : List Int} {place : List Int} {nodes : List GDNode} {unique : GMap Int} {memo : GMap Int} {q0 k0 g0 q1 k1 g1 q2 k2 g2 q3 k3 g3 q4 k4 g4 q5 k5 g5 : Nat} (hdk : DK [(q0, k0), (q3, k3), (q4, k4), (q5, k5), (q1, k1), (q2, k2)]) {Q : List GDNode → GMap Int → GMap Int → Int → Prop} {S : St} {R : AV → St → Prop} (h : decision_Table__Compose__e_W r event by1 order place nodes unique memo Q) (hQ : ∀ r1 r2 r3 r4, ∀ h3, Q r1 r2 r3 r4 → R (AV.int .i64 r4) (stX S [(q0, k0, .arr 5 [.agg [.sl 1 q1 k1 g1 0 order.length, .sl 1 q2 k2 g2 0 place.length, .sl 3 q3 k3 h3 0 r1.length, .map q4 k4 g4, .map q5 k5 g5]], g0), (q3, k3, .arr 3 (List.map eDNode r1), h3), (q4, k4, mapE (AV.int .i64) (.many [.i64, .i64, .i64]) r2, g4), (q5, k5, mapE (AV.int .i64) (.many [.i64, .i64, .i64]) r3, g5), (q1, k1, .arr 1 (List.map (AV.int .i64) order), g1), (q2, k2, .arr 1 (List.map (AV.int .i64) place), g2)])) :
    Ctr Try.prog 136 [.ptr q0 k0 g0 0 0, AV.int .i64 r, AV.int .i64 event, AV.int .i64 by1] (stX S [(q0, k0, .arr 5 [.agg [.sl 1 q1 k1 g1 0 order.length, .sl 1 q2 k2 g2 0 place.length, .sl 3 q3 k3 g3 0 nodes.length, .map q4 k4 g4, .map q5 k5 g5]], g0), (q3, k3, .arr 3 (List.map eDNode nodes), g3), (q4, k4, mapE (AV.int .i64) (.many [.i64, .i64, .i64]) unique, g4), (q5, k5, mapE (AV.int .i64) (.many [.i64, .i64, .i64]) memo, g5), (q1, k1, .arr 1 (List.map (AV.int .i64) order), g1), (q2, k2, .arr 1 (List.map (AV.int .i64) place), g2)]) R := by
  unfold decision_Table__Compose__e_W at h
  refine enterT Try.func136 rfl Try.ntmps136 Try.results136 (by kernel_rfl) (fun rg hrg => ?_)
  have hdx : DX [(q0, k0, .arr 5 [.agg [.sl 1 q1 k1 g1 0 order.length, .sl 1 q2 k2 g2 0 place.length, .sl 3 q3 k3 g3 0 nodes.length, .map q4 k4 g4, .map q5 k5 g5]], g0), (q3, k3, .arr 3 (List.map eDNode nodes), g3), (q4, k4, mapE (AV.int .i64) (.many [.i64, .i64, .i64]) unique, g4), (q5, k5, mapE (AV.int .i64) (.many [.i64, .i64, .i64]) memo, g5), (q1, k1, .arr 1 (List.map (AV.int .i64) order), g1), (q2, k2, .arr 1 (List.map (AV.int .i64) place), g2)] := hdk
  have hfr := fun X' e => fresh_set (S := S) (rg := rg) (X := [(q0, k0, .arr 5 [.agg [.sl 1 q1 k1 g1 0 order.length, .sl 1 q2 k2 g2 0 place.length, .sl 3 q3 k3 g3 0 nodes.length, .map q4 k4 g4, .map q5 k5 g5]], g0), (q3, k3, .arr 3 (List.map eDNode nodes), g3), (q4, k4, mapE (AV.int .i64) (.many [.i64, .i64, .i64]) unique, g4), (q5, k5, mapE (AV.int .i64) (.many [.i64, .i64, .i64]) memo, g5), (q1, k1, .arr 1 (List.map (AV.int .i64) order), g1), (q2, k2, .arr 1 (List.map (AV.int .i64) place), g2)]) (X' := X') e hrg
  have hne0 := fresh_ne hdx hrg 0 rfl
  have hne3 := fresh_ne hdx hrg 1 rfl
  have hne4 := fresh_ne hdx hrg 2 rfl
  have hne5 := fresh_ne hdx hrg 3 rfl
  have hne1 := fresh_ne hdx hrg 4 rfl
  have hne2 := fresh_ne hdx hrg 5 rfl
  refine qZ (rZ (wZ rg (o_box (v := .ptr q0 k0 g0 0 0) rfl rfl (kk := 1) rfl (by decide) (fun g6 => (wZ rg (o_box (v := .int .i64 event) rfl rfl (kk := 1) rfl (by decide) (fun g7 => (wZ rg (o_box (v := .int .i64 by1) rfl rfl (kk := 1) rfl (by decide) (fun g8 => (asZ (.int .i64 0) rfl (nZ (qZ (rZ (wZ rg (o_makeMap (enc := AV.int .i64) td199 ksh3 trivial (fun g9 => ?_)))))))))))))))))
  refine wZ rg (o_alloc zav199 ok199 (kk := 1) rfl (fun g10 => (wZ rg (o_storeB (atL (k := 9) rfl) sz199 (by decide) rfl (w := .map rg 11 g9) rfl rfl rfl (v := .map rg 11 g9) rfl setL (nZ (qZ (rZ (wZ rg (o_alloc zav132 ok132 (kk := 1) rfl (fun g11 => (nZ (qZ (rZ ?_)))))))))))))
  refine wZ rg (o_func (vs := []) (us := [.ptr rg 4 g6 0 0, .ptr rg 6 g7 0 0, .ptr rg 9 g10 0 0, .ptr rg 7 g8 0 0, .ptr rg 10 g11 0 0]) rfl rfl ?_)
  refine wZ rg (o_storeB (atL (k := 10) rfl) sz132 (by decide) rfl (w := .fn (.func 192) [] [.ptr rg 4 g6 0 0, .ptr rg 6 g7 0 0, .ptr rg 9 g10 0 0, .ptr rg 7 g8 0 0, .ptr rg 10 g11 0 0]) rfl rfl rfl (v := .fn (.func 192) [] [.ptr rg 4 g6 0 0, .ptr rg 6 g7 0 0, .ptr rg 9 g10 0 0, .ptr rg 7 g8 0 0, .ptr rg 10 g11 0 0]) rfl setL (nZ (qZ (rZ ?_))))
  refine wZ rg (o_loadB1 (atL (k := 10) rfl) sz132 ag132 rfl rfl (v := .fn (.func 192) [] [.ptr rg 4 g6 0 0, .ptr rg 6 g7 0 0, .ptr rg 9 g10 0 0, .ptr rg 7 g8 0 0, .ptr rg 10 g11 0 0]) rfl (mvZ (.int .i64 r) rfl ?_))
  obtain ⟨_, h⟩ := h
  refine wZ rg (o_call (us := [AV.int .i64 r, .ptr rg 4 g6 0 0, .ptr rg 6 g7 0 0, .ptr rg 9 g10 0 0, .ptr rg 7 g8 0 0, .ptr rg 10 g11 0 0]) rfl (vl' vr (vl' vr (vl' vr (vl' vr (vl' vr (vl' vr (vn))))))) (ctrX (sx_c (atX hne0 hdx 0 rfl) (sx_c (atL (k := 11) rfl) (sx_c (atX hne3 hdx 1 rfl) (sx_c (atX hne4 hdx 2 rfl) (sx_c (atX hne5 hdx 3 rfl) (sx_c (atL (k := 4) rfl) (sx_c (atL (k := 6) rfl) (sx_c (atL (k := 9) rfl) (sx_c (atL (k := 7) rfl) (sx_c (atL (k := 10) rfl) (sx_c (atX hne1 hdx 4 rfl) (sx_c (atX hne2 hdx 5 rfl) (sx_n))))))))))))) (decision_Table__Compose_1__e_ctr (dk_c (ni_c (ni_a (Ne.symm hne0)) (ni_c (dk_at 0 1 hdk rfl rfl rfl) (ni_c (dk_at 0 2 hdk rfl rfl rfl) (ni_c (dk_at 0 3 hdk rfl rfl rfl) (ni_c (ni_a (Ne.symm hne0)) (ni_c (ni_a (Ne.symm hne0)) (ni_c (ni_a (Ne.symm hne0)) (ni_c (ni_a (Ne.symm hne0)) (ni_c (ni_a (Ne.symm hne0)) (ni_c (dk_at 0 4 hdk rfl rfl rfl) (ni_c (dk_at 0 5 hdk rfl rfl rfl) (ni_n)))))))))))) (dk_c (ni_c (ni_a hne3) (ni_c (ni_a hne4) (ni_c (ni_a hne5) (ni_c (ni_o rfl) (ni_c (ni_o rfl) (ni_c (ni_o rfl) (ni_c (ni_o rfl) (ni_c (ni_o rfl) (ni_c (ni_a hne1) (ni_c (ni_a hne2) (ni_n))))))))))) (dk_c (ni_c (dk_at 1 2 hdk rfl rfl rfl) (ni_c (dk_at 1 3 hdk rfl rfl rfl) (ni_c (ni_a (Ne.symm hne3)) (ni_c (ni_a (Ne.symm hne3)) (ni_c (ni_a (Ne.symm hne3)) (ni_c (ni_a (Ne.symm hne3)) (ni_c (ni_a (Ne.symm hne3)) (ni_c (dk_at 1 4 hdk rfl rfl rfl) (ni_c (dk_at 1 5 hdk rfl rfl rfl) (ni_n)))))))))) (dk_c (ni_c (dk_at 2 3 hdk rfl rfl rfl) (ni_c (ni_a (Ne.symm hne4)) (ni_c (ni_a (Ne.symm hne4)) (ni_c (ni_a (Ne.symm hne4)) (ni_c (ni_a (Ne.symm hne4)) (ni_c (ni_a (Ne.symm hne4)) (ni_c (dk_at 2 4 hdk rfl rfl rfl) (ni_c (dk_at 2 5 hdk rfl rfl rfl) (ni_n))))))))) (dk_c (ni_c (ni_a (Ne.symm hne5)) (ni_c (ni_a (Ne.symm hne5)) (ni_c (ni_a (Ne.symm hne5)) (ni_c (ni_a (Ne.symm hne5)) (ni_c (ni_a (Ne.symm hne5)) (ni_c (dk_at 3 4 hdk rfl rfl rfl) (ni_c (dk_at 3 5 hdk rfl rfl rfl) (ni_n)))))))) (dk_c (ni_c (ni_o rfl) (ni_c (ni_o rfl) (ni_c (ni_o rfl) (ni_c (ni_o rfl) (ni_c (ni_a hne1) (ni_c (ni_a hne2) (ni_n))))))) (dk_c (ni_c (ni_o rfl) (ni_c (ni_o rfl) (ni_c (ni_o rfl) (ni_c (ni_a hne1) (ni_c (ni_a hne2) (ni_n)))))) (dk_c (ni_c (ni_o rfl) (ni_c (ni_o rfl) (ni_c (ni_a hne1) (ni_c (ni_a hne2) (ni_n))))) (dk_c (ni_c (ni_o rfl) (ni_c (ni_a hne1) (ni_c (ni_a hne2) (ni_n)))) (dk_c (ni_c (ni_a hne1) (ni_c (ni_a hne2) (ni_n))) (dk_c (ni_c (dk_at 4 5 hdk rfl rfl rfl) (ni_n)) (dk_c (ni_n) (dk_n))))))))))))) h fun u u1 u2 u3 r1 g12 h => ?_)))
  refine Wl.eqS (sy_c (sy_c (sy_c (sy_c (sy_c (sx_c (atL (k := 4) rfl) (sx_c (atL (k := 6) rfl) (sx_c (atL (k := 9) rfl) (sx_c (atL (k := 7) rfl) (sx_c (atL (k := 10) rfl) (sx_c (atX hne1 hdx 4 rfl) (sx_c (atX hne2 hdx 5 rfl) (sx_n)))))))) (setX hne5 hdx 3 rfl rfl)) (setX hne4 hdx 2 rfl rfl)) (setX hne3 hdx 1 rfl rfl)) setL) (setX hne0 hdx 0 rfl rfl)) ?_
  refine asZ (.int .i64 r1) rfl (nZ ?_)
  refine Vc.ret' ?_
  refine res_tmp (v := .int .i64 r1) rfl (res_nil ?_)
  show Gives _ (.int .i64 r1) _
  exact gives_out (hfr _ rfl) (VW.refl _) (hQ _ _ _ _ _ h)
theorem decision_Table__Restrict__e_ctr {r : Int} {event : Int} {failed : Bool} {order : List Int} {place : List Int} {nodes : List GDNode} {unique : GMap Int} {memo : GMap Int} {q0 k0 g0 q1 k1 g1 q2 k2 g2 q3 k3 g3 q4 k4 g4 q5 k5 g5 : Nat} (hdk : DK [(q0, k0), (q3, k3), (q4, k4), (q5, k5), (q1, k1), (q2, k2)]) {Q : List GDNode → GMap Int → GMap Int → Int → Prop} {S : St} {R : AV → St → Prop} (h : decision_Table__Restrict__e_W r event failed order place nodes unique memo Q) (hQ : ∀ r1 r2 r3 r4, ∀ h3, Q r1 r2 r3 r4 → R (AV.int .i64 r4) (stX S [(q0, k0, .arr 5 [.agg [.sl 1 q1 k1 g1 0 order.length, .sl 1 q2 k2 g2 0 place.length, .sl 3 q3 k3 h3 0 r1.length, .map q4 k4 g4, .map q5 k5 g5]], g0), (q3, k3, .arr 3 (List.map eDNode r1), h3), (q4, k4, mapE (AV.int .i64) (.many [.i64, .i64, .i64]) r2, g4), (q5, k5, mapE (AV.int .i64) (.many [.i64, .i64, .i64]) r3, g5), (q1, k1, .arr 1 (List.map (AV.int .i64) order), g1), (q2, k2, .arr 1 (List.map (AV.int .i64) place), g2)])) :
    Ctr Try.prog 126 [.ptr q0 k0 g0 0 0, AV.int .i64 r, AV.int .i64 event, AV.bool failed] (stX S [(q0, k0, .arr 5 [.agg [.sl 1 q1 k1 g1 0 order.length, .sl 1 q2 k2 g2 0 place.length, .sl 3 q3 k3 g3 0 nodes.length, .map q4 k4 g4, .map q5 k5 g5]], g0), (q3, k3, .arr 3 (List.map eDNode nodes), g3), (q4, k4, mapE (AV.int .i64) (.many [.i64, .i64, .i64]) unique, g4), (q5, k5, mapE (AV.int .i64) (.many [.i64, .i64, .i64]) memo, g5), (q1, k1, .arr 1 (List.map (AV.int .i64) order), g1), (q2, k2, .arr 1 (List.map (AV.int .i64) place), g2)]) R := by
  unfold decision_Table__Restrict__e_W at h
  refine enterT Try.func126 rfl Try.ntmps126 Try.results126 (by kernel_rfl) (fun rg hrg => ?_)
  have hdx : DX [(q0, k0, .arr 5 [.agg [.sl 1 q1 k1 g1 0 order.length, .sl 1 q2 k2 g2 0 place.length, .sl 3 q3 k3 g3 0 nodes.length, .map q4 k4 g4, .map q5 k5 g5]], g0), (q3, k3, .arr 3 (List.map eDNode nodes), g3), (q4, k4, mapE (AV.int .i64) (.many [.i64, .i64, .i64]) unique, g4), (q5, k5, mapE (AV.int .i64) (.many [.i64, .i64, .i64]) memo, g5), (q1, k1, .arr 1 (List.map (AV.int .i64) order), g1), (q2, k2, .arr 1 (List.map (AV.int .i64) place), g2)] := hdk
  have hfr := fun X' e => fresh_set (S := S) (rg := rg) (X := [(q0, k0, .arr 5 [.agg [.sl 1 q1 k1 g1 0 order.length, .sl 1 q2 k2 g2 0 place.length, .sl 3 q3 k3 g3 0 nodes.length, .map q4 k4 g4, .map q5 k5 g5]], g0), (q3, k3, .arr 3 (List.map eDNode nodes), g3), (q4, k4, mapE (AV.int .i64) (.many [.i64, .i64, .i64]) unique, g4), (q5, k5, mapE (AV.int .i64) (.many [.i64, .i64, .i64]) memo, g5), (q1, k1, .arr 1 (List.map (AV.int .i64) order), g1), (q2, k2, .arr 1 (List.map (AV.int .i64) place), g2)]) (X' := X') e hrg
  have hne0 := fresh_ne hdx hrg 0 rfl
  have hne3 := fresh_ne hdx hrg 1 rfl
  have hne4 := fresh_ne hdx hrg 2 rfl
  have hne5 := fresh_ne hdx hrg 3 rfl
  have hne1 := fresh_ne hdx hrg 4 rfl
  have hne2 := fresh_ne hdx hrg 5 rfl
  refine qZ (rZ (asZ (.int .i64 0) rfl (nZ (qZ (qZ (rZ (mvZ (.bool failed) rfl (nZ ?_))))))))
  refine Vc.cond' rfl (fun hb => ?_) (fun hb => ?_)
  · replace h := h.1 hb
    refine qZ (rZ (mvZ (.ptr q0 k0 g0 0 0) rfl (mvZ (.int .i64 r) rfl (mvZ (.int .i64 event) rfl ?_))))
    refine wZ rg (o_call (us := [.ptr q0 k0 g0 0 0, AV.int .i64 r, AV.int .i64 event, AV.int .i64 1]) rfl (vl' vr (vl' vr (vl' vr (vl' vr (vn))))) (ctrX (sx_c (atX hne0 hdx 0 rfl) (sx_c (atX hne3 hdx 1 rfl) (sx_c (atX hne4 hdx 2 rfl) (sx_c (atX hne5 hdx 3 rfl) (sx_c (atX hne1 hdx 4 rfl) (sx_c (atX hne2 hdx 5 rfl) (sx_n))))))) (decision_Table__Compose__e_ctr (dk_c (ni_c (dk_at 0 1 hdk rfl rfl rfl) (ni_c (dk_at 0 2 hdk rfl rfl rfl) (ni_c (dk_at 0 3 hdk rfl rfl rfl) (ni_c (dk_at 0 4 hdk rfl rfl rfl) (ni_c (dk_at 0 5 hdk rfl rfl rfl) (ni_n)))))) (dk_c (ni_c (dk_at 1 2 hdk rfl rfl rfl) (ni_c (dk_at 1 3 hdk rfl rfl rfl) (ni_c (dk_at 1 4 hdk rfl rfl rfl) (ni_c (dk_at 1 5 hdk rfl rfl rfl) (ni_n))))) (dk_c (ni_c (dk_at 2 3 hdk rfl rfl rfl) (ni_c (dk_at 2 4 hdk rfl rfl rfl) (ni_c (dk_at 2 5 hdk rfl rfl rfl) (ni_n)))) (dk_c (ni_c (dk_at 3 4 hdk rfl rfl rfl) (ni_c (dk_at 3 5 hdk rfl rfl rfl) (ni_n))) (dk_c (ni_c (dk_at 4 5 hdk rfl rfl rfl) (ni_n)) (dk_c (ni_n) (dk_n))))))) h fun u u1 u2 r1 g6 h => ?_)))
    refine Wl.eqS (sy_c (sy_c (sy_c (sy_c (sx_c (atX hne1 hdx 4 rfl) (sx_c (atX hne2 hdx 5 rfl) (sx_n))) (setX hne5 hdx 3 rfl rfl)) (setX hne4 hdx 2 rfl rfl)) (setX hne3 hdx 1 rfl rfl)) (setX hne0 hdx 0 rfl rfl)) ?_
    refine asZ (.int .i64 r1) rfl (nZ ?_)
    refine Vc.ret' ?_
    refine res_tmp (v := .int .i64 r1) rfl (res_nil ?_)
    show Gives _ (.int .i64 r1) _
    exact gives_out (hfr _ rfl) (VW.refl _) (hQ _ _ _ _ _ h)
  replace h := h.2 hb
  refine Vc.skip' ?_
  refine qZ (rZ (mvZ (.ptr q0 k0 g0 0 0) rfl (mvZ (.int .i64 r) rfl (mvZ (.int .i64 event) rfl ?_))))
  refine wZ rg (o_call (us := [.ptr q0 k0 g0 0 0, AV.int .i64 r, AV.int .i64 event, AV.int .i64 0]) rfl (vl' vr (vl' vr (vl' vr (vl' vr (vn))))) (ctrX (sx_c (atX hne0 hdx 0 rfl) (sx_c (atX hne3 hdx 1 rfl) (sx_c (atX hne4 hdx 2 rfl) (sx_c (atX hne5 hdx 3 rfl) (sx_c (atX hne1 hdx 4 rfl) (sx_c (atX hne2 hdx 5 rfl) (sx_n))))))) (decision_Table__Compose__e_ctr (dk_c (ni_c (dk_at 0 1 hdk rfl rfl rfl) (ni_c (dk_at 0 2 hdk rfl rfl rfl) (ni_c (dk_at 0 3 hdk rfl rfl rfl) (ni_c (dk_at 0 4 hdk rfl rfl rfl) (ni_c (dk_at 0 5 hdk rfl rfl rfl) (ni_n)))))) (dk_c (ni_c (dk_at 1 2 hdk rfl rfl rfl) (ni_c (dk_at 1 3 hdk rfl rfl rfl) (ni_c (dk_at 1 4 hdk rfl rfl rfl) (ni_c (dk_at 1 5 hdk rfl rfl rfl) (ni_n))))) (dk_c (ni_c (dk_at 2 3 hdk rfl rfl rfl) (ni_c (dk_at 2 4 hdk rfl rfl rfl) (ni_c (dk_at 2 5 hdk rfl rfl rfl) (ni_n)))) (dk_c (ni_c (dk_at 3 4 hdk rfl rfl rfl) (ni_c (dk_at 3 5 hdk rfl rfl rfl) (ni_n))) (dk_c (ni_c (dk_at 4 5 hdk rfl rfl rfl) (ni_n)) (dk_c (ni_n) (dk_n))))))) h fun u3 u4 u5 r2 g7 h => ?_)))
  refine Wl.eqS (sy_c (sy_c (sy_c (sy_c (sx_c (atX hne1 hdx 4 rfl) (sx_c (atX hne2 hdx 5 rfl) (sx_n))) (setX hne5 hdx 3 rfl rfl)) (setX hne4 hdx 2 rfl rfl)) (setX hne3 hdx 1 rfl rfl)) (setX hne0 hdx 0 rfl rfl)) ?_
  refine asZ (.int .i64 r2) rfl (nZ ?_)
  refine Vc.ret' ?_
  refine res_tmp (v := .int .i64 r2) rfl (res_nil ?_)
  show Gives _ (.int .i64 r2) _
  exact gives_out (hfr _ rfl) (VW.refl _) (hQ _ _ _ _ _ h)
theorem decision_Table__And__e_ctr {a : Int} {b : Int} {order : List Int} {place : List Int} {nodes : List GDNode} {unique : GMap Int} {memo : GMap Int} {q0 k0 g0 q1 k1 g1 q2 k2 g2 q3 k3 g3 q4 k4 g4 q5 k5 g5 : Nat} (hdk : DK [(q0, k0), (q3, k3), (q4, k4), (q5, k5), (q1, k1), (q2, k2)]) {Q : List GDNode → GMap Int → GMap Int → Int → Prop} {S : St} {R : AV → St → Prop} (h : decision_Table__And__e_W a b order place nodes unique memo Q) (hQ : ∀ r1 r2 r3 r4, ∀ h3, Q r1 r2 r3 r4 → R (AV.int .i64 r4) (stX S [(q0, k0, .arr 5 [.agg [.sl 1 q1 k1 g1 0 order.length, .sl 1 q2 k2 g2 0 place.length, .sl 3 q3 k3 h3 0 r1.length, .map q4 k4 g4, .map q5 k5 g5]], g0), (q3, k3, .arr 3 (List.map eDNode r1), h3), (q4, k4, mapE (AV.int .i64) (.many [.i64, .i64, .i64]) r2, g4), (q5, k5, mapE (AV.int .i64) (.many [.i64, .i64, .i64]) r3, g5), (q1, k1, .arr 1 (List.map (AV.int .i64) order), g1), (q2, k2, .arr 1 (List.map (AV.int .i64) place), g2)])) :
    Ctr Try.prog 132 [.ptr q0 k0 g0 0 0, AV.int .i64 a, AV.int .i64 b] (stX S [(q0, k0, .arr 5 [.agg [.sl 1 q1 k1 g1 0 order.length, .sl 1 q2 k2 g2 0 place.length, .sl 3 q3 k3 g3 0 nodes.length, .map q4 k4 g4, .map q5 k5 g5]], g0), (q3, k3, .arr 3 (List.map eDNode nodes), g3), (q4, k4, mapE (AV.int .i64) (.many [.i64, .i64, .i64]) unique, g4), (q5, k5, mapE (AV.int .i64) (.many [.i64, .i64, .i64]) memo, g5), (q1, k1, .arr 1 (List.map (AV.int .i64) order), g1), (q2, k2, .arr 1 (List.map (AV.int .i64) place), g2)]) R := by
  unfold decision_Table__And__e_W at h
  refine enterT Try.func132 rfl Try.ntmps132 Try.results132 (by kernel_rfl) (fun rg hrg => ?_)
  have hdx : DX [(q0, k0, .arr 5 [.agg [.sl 1 q1 k1 g1 0 order.length, .sl 1 q2 k2 g2 0 place.length, .sl 3 q3 k3 g3 0 nodes.length, .map q4 k4 g4, .map q5 k5 g5]], g0), (q3, k3, .arr 3 (List.map eDNode nodes), g3), (q4, k4, mapE (AV.int .i64) (.many [.i64, .i64, .i64]) unique, g4), (q5, k5, mapE (AV.int .i64) (.many [.i64, .i64, .i64]) memo, g5), (q1, k1, .arr 1 (List.map (AV.int .i64) order), g1), (q2, k2, .arr 1 (List.map (AV.int .i64) place), g2)] := hdk
  have hfr := fun X' e => fresh_set (S := S) (rg := rg) (X := [(q0, k0, .arr 5 [.agg [.sl 1 q1 k1 g1 0 order.length, .sl 1 q2 k2 g2 0 place.length, .sl 3 q3 k3 g3 0 nodes.length, .map q4 k4 g4, .map q5 k5 g5]], g0), (q3, k3, .arr 3 (List.map eDNode nodes), g3), (q4, k4, mapE (AV.int .i64) (.many [.i64, .i64, .i64]) unique, g4), (q5, k5, mapE (AV.int .i64) (.many [.i64, .i64, .i64]) memo, g5), (q1, k1, .arr 1 (List.map (AV.int .i64) order), g1), (q2, k2, .arr 1 (List.map (AV.int .i64) place), g2)]) (X' := X') e hrg
  have hne0 := fresh_ne hdx hrg 0 rfl
  have hne3 := fresh_ne hdx hrg 1 rfl
  have hne4 := fresh_ne hdx hrg 2 rfl
  have hne5 := fresh_ne hdx hrg 3 rfl
  have hne1 := fresh_ne hdx hrg 4 rfl
  have hne2 := fresh_ne hdx hrg 5 rfl
  refine qZ (rZ (asZ (.int .i64 0) rfl (nZ (qZ (rZ (mvZ (.ptr q0 k0 g0 0 0) rfl (mvZ (.int .i64 a) rfl (mvZ (.int .i64 b) rfl ?_))))))))
  obtain ⟨_, h⟩ := h
  refine wZ rg (o_call (us := [.ptr q0 k0 g0 0 0, AV.int .i64 a, AV.int .i64 b, AV.int .i64 0]) rfl (vl' vr (vl' vr (vl' vr (vl' vr (vn))))) (ctrX (sx_c (atX hne0 hdx 0 rfl) (sx_c (atX hne3 hdx 1 rfl) (sx_c (atX hne4 hdx 2 rfl) (sx_c (atX hne5 hdx 3 rfl) (sx_c (atX hne1 hdx 4 rfl) (sx_c (atX hne2 hdx 5 rfl) (sx_n))))))) (decision_Table__Choose__e_ctr (dk_c (ni_c (dk_at 0 1 hdk rfl rfl rfl) (ni_c (dk_at 0 2 hdk rfl rfl rfl) (ni_c (dk_at 0 3 hdk rfl rfl rfl) (ni_c (dk_at 0 4 hdk rfl rfl rfl) (ni_c (dk_at 0 5 hdk rfl rfl rfl) (ni_n)))))) (dk_c (ni_c (dk_at 1 2 hdk rfl rfl rfl) (ni_c (dk_at 1 3 hdk rfl rfl rfl) (ni_c (dk_at 1 4 hdk rfl rfl rfl) (ni_c (dk_at 1 5 hdk rfl rfl rfl) (ni_n))))) (dk_c (ni_c (dk_at 2 3 hdk rfl rfl rfl) (ni_c (dk_at 2 4 hdk rfl rfl rfl) (ni_c (dk_at 2 5 hdk rfl rfl rfl) (ni_n)))) (dk_c (ni_c (dk_at 3 4 hdk rfl rfl rfl) (ni_c (dk_at 3 5 hdk rfl rfl rfl) (ni_n))) (dk_c (ni_c (dk_at 4 5 hdk rfl rfl rfl) (ni_n)) (dk_c (ni_n) (dk_n))))))) h fun u u1 u2 r g6 h => ?_)))
  refine Wl.eqS (sy_c (sy_c (sy_c (sy_c (sx_c (atX hne1 hdx 4 rfl) (sx_c (atX hne2 hdx 5 rfl) (sx_n))) (setX hne5 hdx 3 rfl rfl)) (setX hne4 hdx 2 rfl rfl)) (setX hne3 hdx 1 rfl rfl)) (setX hne0 hdx 0 rfl rfl)) ?_
  refine asZ (.int .i64 r) rfl (nZ ?_)
  refine Vc.ret' ?_
  refine res_tmp (v := .int .i64 r) rfl (res_nil ?_)
  show Gives _ (.int .i64 r) _
  exact gives_out (hfr _ rfl) (VW.refl _) (hQ _ _ _ _ _ h)
theorem decision_Table__Or__e_ctr {a : Int} {b : Int} {order : List Int} {place : List Int} {nodes : List GDNode} {unique : GMap Int} {memo : GMap Int} {q0 k0 g0 q1 k1 g1 q2 k2 g2 q3 k3 g3 q4 k4 g4 q5 k5 g5 : Nat} (hdk : DK [(q0, k0), (q3, k3), (q4, k4), (q5, k5), (q1, k1), (q2, k2)]) {Q : List GDNode → GMap Int → GMap Int → Int → Prop} {S : St} {R : AV → St → Prop} (h : decision_Table__Or__e_W a b order place nodes unique memo Q) (hQ : ∀ r1 r2 r3 r4, ∀ h3, Q r1 r2 r3 r4 → R (AV.int .i64 r4) (stX S [(q0, k0, .arr 5 [.agg [.sl 1 q1 k1 g1 0 order.length, .sl 1 q2 k2 g2 0 place.length, .sl 3 q3 k3 h3 0 r1.length, .map q4 k4 g4, .map q5 k5 g5]], g0), (q3, k3, .arr 3 (List.map eDNode r1), h3), (q4, k4, mapE (AV.int .i64) (.many [.i64, .i64, .i64]) r2, g4), (q5, k5, mapE (AV.int .i64) (.many [.i64, .i64, .i64]) r3, g5), (q1, k1, .arr 1 (List.map (AV.int .i64) order), g1), (q2, k2, .arr 1 (List.map (AV.int .i64) place), g2)])) :
    Ctr Try.prog 133 [.ptr q0 k0 g0 0 0, AV.int .i64 a, AV.int .i64 b] (stX S [(q0, k0, .arr 5 [.agg [.sl 1 q1 k1 g1 0 order.length, .sl 1 q2 k2 g2 0 place.length, .sl 3 q3 k3 g3 0 nodes.length, .map q4 k4 g4, .map q5 k5 g5]], g0), (q3, k3, .arr 3 (List.map eDNode nodes), g3), (q4, k4, mapE (AV.int .i64) (.many [.i64, .i64, .i64]) unique, g4), (q5, k5, mapE (AV.int .i64) (.many [.i64, .i64, .i64]) memo, g5), (q1, k1, .arr 1 (List.map (AV.int .i64) order), g1), (q2, k2, .arr 1 (List.map (AV.int .i64) place), g2)]) R := by
  unfold decision_Table__Or__e_W at h
  refine enterT Try.func133 rfl Try.ntmps133 Try.results133 (by kernel_rfl) (fun rg hrg => ?_)
  have hdx : DX [(q0, k0, .arr 5 [.agg [.sl 1 q1 k1 g1 0 order.length, .sl 1 q2 k2 g2 0 place.length, .sl 3 q3 k3 g3 0 nodes.length, .map q4 k4 g4, .map q5 k5 g5]], g0), (q3, k3, .arr 3 (List.map eDNode nodes), g3), (q4, k4, mapE (AV.int .i64) (.many [.i64, .i64, .i64]) unique, g4), (q5, k5, mapE (AV.int .i64) (.many [.i64, .i64, .i64]) memo, g5), (q1, k1, .arr 1 (List.map (AV.int .i64) order), g1), (q2, k2, .arr 1 (List.map (AV.int .i64) place), g2)] := hdk
  have hfr := fun X' e => fresh_set (S := S) (rg := rg) (X := [(q0, k0, .arr 5 [.agg [.sl 1 q1 k1 g1 0 order.length, .sl 1 q2 k2 g2 0 place.length, .sl 3 q3 k3 g3 0 nodes.length, .map q4 k4 g4, .map q5 k5 g5]], g0), (q3, k3, .arr 3 (List.map eDNode nodes), g3), (q4, k4, mapE (AV.int .i64) (.many [.i64, .i64, .i64]) unique, g4), (q5, k5, mapE (AV.int .i64) (.many [.i64, .i64, .i64]) memo, g5), (q1, k1, .arr 1 (List.map (AV.int .i64) order), g1), (q2, k2, .arr 1 (List.map (AV.int .i64) place), g2)]) (X' := X') e hrg
  have hne0 := fresh_ne hdx hrg 0 rfl
  have hne3 := fresh_ne hdx hrg 1 rfl
  have hne4 := fresh_ne hdx hrg 2 rfl
  have hne5 := fresh_ne hdx hrg 3 rfl
  have hne1 := fresh_ne hdx hrg 4 rfl
  have hne2 := fresh_ne hdx hrg 5 rfl
  refine qZ (rZ (asZ (.int .i64 0) rfl (nZ (qZ (rZ (mvZ (.ptr q0 k0 g0 0 0) rfl (mvZ (.int .i64 a) rfl (mvZ (.int .i64 b) rfl ?_))))))))
  obtain ⟨_, h⟩ := h
  refine wZ rg (o_call (us := [.ptr q0 k0 g0 0 0, AV.int .i64 a, AV.int .i64 1, AV.int .i64 b]) rfl (vl' vr (vl' vr (vl' vr (vl' vr (vn))))) (ctrX (sx_c (atX hne0 hdx 0 rfl) (sx_c (atX hne3 hdx 1 rfl) (sx_c (atX hne4 hdx 2 rfl) (sx_c (atX hne5 hdx 3 rfl) (sx_c (atX hne1 hdx 4 rfl) (sx_c (atX hne2 hdx 5 rfl) (sx_n))))))) (decision_Table__Choose__e_ctr (dk_c (ni_c (dk_at 0 1 hdk rfl rfl rfl) (ni_c (dk_at 0 2 hdk rfl rfl rfl) (ni_c (dk_at 0 3 hdk rfl rfl rfl) (ni_c (dk_at 0 4 hdk rfl rfl rfl) (ni_c (dk_at 0 5 hdk rfl rfl rfl) (ni_n)))))) (dk_c (ni_c (dk_at 1 2 hdk rfl rfl rfl) (ni_c (dk_at 1 3 hdk rfl rfl rfl) (ni_c (dk_at 1 4 hdk rfl rfl rfl) (ni_c (dk_at 1 5 hdk rfl rfl rfl) (ni_n))))) (dk_c (ni_c (dk_at 2 3 hdk rfl rfl rfl) (ni_c (dk_at 2 4 hdk rfl rfl rfl) (ni_c (dk_at 2 5 hdk rfl rfl rfl) (ni_n)))) (dk_c (ni_c (dk_at 3 4 hdk rfl rfl rfl) (ni_c (dk_at 3 5 hdk rfl rfl rfl) (ni_n))) (dk_c (ni_c (dk_at 4 5 hdk rfl rfl rfl) (ni_n)) (dk_c (ni_n) (dk_n))))))) h fun u u1 u2 r g6 h => ?_)))
  refine Wl.eqS (sy_c (sy_c (sy_c (sy_c (sx_c (atX hne1 hdx 4 rfl) (sx_c (atX hne2 hdx 5 rfl) (sx_n))) (setX hne5 hdx 3 rfl rfl)) (setX hne4 hdx 2 rfl rfl)) (setX hne3 hdx 1 rfl rfl)) (setX hne0 hdx 0 rfl rfl)) ?_
  refine asZ (.int .i64 r) rfl (nZ ?_)
  refine Vc.ret' ?_
  refine res_tmp (v := .int .i64 r) rfl (res_nil ?_)
  show Gives _ (.int .i64 r) _
  exact gives_out (hfr _ rfl) (VW.refl _) (hQ _ _ _ _ _ h)
end Go.Proofs.Ytllegjdggcmgaaa
/- Walks of functions. Conditions: none. -/
namespace Go.Proofs.Ytllegjdggcmgaaa
open Go.Gg
set_option maxRecDepth 100000
theorem order_Check_ctr {o : List Int} {vars : Int} {Q : Option Int → Prop} {S : St} {R : AV → St → Prop} (h : order_Check_W o vars Q) (hQ : ∀ r1, Q r1 → R (eErr 83 r1) S) :
    Ctr Try.prog 105 [eL (AV.int .i64) o, AV.int .i64 vars] S R := by
  unfold order_Check_W at h
  refine enterT Try.func105 rfl Try.ntmps105 Try.results105 (by kernel_rfl) (fun rg hrg => ?_)
  refine qZ (rZ (asZ .niface rfl (nZ (qZ ?_))))
  refine Vc.blk ?_
  obtain ⟨J, h, hJ⟩ := h
  refine Vc.join' (σ := (Bool)) (fun y => J y) (fun y => envOf [(0, eL (AV.int .i64) o), (1, .int .i64 vars), (8, .bool y)]) (fun y => stL S rg []) (fun x h => ?_) ?_
  · replace h := hJ x h
    show Vc _ _ _ _ (envOf [(0, eL (AV.int .i64) o), (1, .int .i64 vars), (8, .bool x)]) (stL S rg [])
    refine Vc.cond' rfl (fun hb => ?_) (fun hb => ?_)
    · replace h := h.1 hb
      refine qZ (rZ (wZ rg (o_iface (by rw [td83]; trivial) (v := .int .i64 3) rfl (asZ (.iface 83 (.int .i64 3)) rfl (nZ ?_)))))
      refine Vc.ret' ?_
      refine res_tmp (v := .iface 83 (.int .i64 3)) rfl (res_nil ?_)
      show Gives _ (.iface 83 (.int .i64 3)) _
      exact gives_out hrg (VW.refl _) (hQ _ h)
    replace h := h.2 hb
    refine qZ (rZ (mvZ (eL (AV.int .i64) o) rfl (wZ rg (o_len td22 rfl (mvZ (.int .i64 vars) rfl (wZ rg (o_neq rfl rfl (asZ (.bool ((o.length : Int) != vars)) rfl (nZ ?_)))))))))
    refine Vc.cond' rfl (fun hb1 => ?_) (fun hb1 => ?_)
    · replace h := h.1 hb1
      refine qZ (rZ (wZ rg (o_iface (by rw [td83]; trivial) (v := .int .i64 11) rfl (asZ (.iface 83 (.int .i64 11)) rfl (nZ ?_)))))
      refine Vc.ret' ?_
      refine res_tmp (v := .iface 83 (.int .i64 11)) rfl (res_nil ?_)
      show Gives _ (.iface 83 (.int .i64 11)) _
      exact gives_out hrg (VW.refl _) (hQ _ h)
    replace h := h.2 hb1
    refine Vc.skip' ?_
    refine qZ (rZ (mvZ (.int .i64 vars) rfl (wZ rg (o_make td139 bts4 ok4 (enc := AV.bool) (z' := false) zav4 (kk := 1) rfl rfl rfl h.1 (fun g1 => ?_)))))
    replace h := h.2
    refine asZ (.sl 1 rg 23 g1 0 (Int.toNat vars)) rfl (nZ (qZ (qZ (rZ (mvZ (eL (AV.int .i64) o) rfl (wZ rg (o_len td22 rfl (mvZ (.int .i64 0) rfl (nZ ?_)))))))))
    refine Vc.blk ?_
    obtain ⟨I, μ, h0, hI⟩ := h
    refine Vc.loop' (σ := ((Int × (List Bool)) × (Nat))) (fun y => I y.1) (fun y => μ y.1) (fun y => envOf [(1, .int .i64 vars), (5, .sl 1 rg 23 y.2 0 y.1.2.length), (24, eL (AV.int .i64) o), (25, .int .i64 (o.length : Int)), (26, .int .i64 y.1.1)]) (fun y => stL S rg [(23, .arr 1 (List.map AV.bool y.1.2), y.2)]) ((0, (rep' vars false)), g1) (canon (fc vr (fc (VW.slen (by first | rfl | omega | (simp only [go_sem] <;> omega))) (fc vr (fc vr (fc vr (fn)))))) (sc rfl (sn))) h0 (fun y h => ?_)
    obtain ⟨⟨x1, seen⟩, g2⟩ := y
    replace h := hI (x1, seen) h
    show Vc _ _ _ _ (envOf [(1, .int .i64 vars), (5, .sl 1 rg 23 g2 0 seen.length), (24, eL (AV.int .i64) o), (25, .int .i64 (o.length : Int)), (26, .int .i64 x1)]) (stL S rg [(23, .arr 1 (List.map AV.bool seen), g2)])
    refine qZ (rZ (wZ rg (o_lss rfl rfl (nZ (qZ ?_)))))
    refine Vc.cond' rfl (fun hb2 => ?_) (fun hb2 => ?_)
    · replace h := h.1 hb2
      refine Vc.skip' ?_
      refine qZ ?_
      refine Vc.blk ?_
      refine qZ (rZ (wZ rg (o_idxL td22 sz3 (by decide) (fun _ => rfl) rfl rfl h.1 ?_)))
      replace h := h.2
      refine wZ rg (o_loadI1 sz3 ag3 rfl rfl (v := .int .i64 (at' o x1)) rfl (asZ (.int .i64 (at' o x1)) rfl (nZ (qZ ?_))))
      obtain ⟨J, h, hJ⟩ := h
      refine Vc.join' (σ := ((Bool) × (Nat))) (fun y => J y.1) (fun y => envOf [(1, .int .i64 vars), (5, .sl 1 rg 23 y.2 0 seen.length), (7, .int .i64 (at' o x1)), (24, eL (AV.int .i64) o), (25, .int .i64 (o.length : Int)), (26, .int .i64 x1), (36, .bool y.1)]) (fun y => stL S rg [(23, .arr 1 (List.map AV.bool seen), y.2)]) (fun y h => ?_) ?_
      · obtain ⟨x2, g3⟩ := y
        replace h := hJ x2 h
        show Vc _ _ _ _ (envOf [(1, .int .i64 vars), (5, .sl 1 rg 23 g3 0 seen.length), (7, .int .i64 (at' o x1)), (24, eL (AV.int .i64) o), (25, .int .i64 (o.length : Int)), (26, .int .i64 x1), (36, .bool x2)]) (stL S rg [(23, .arr 1 (List.map AV.bool seen), g3)])
        refine Vc.cond' rfl (fun hb3 => ?_) (fun hb3 => ?_)
        · replace h := h.1 hb3
          refine qZ (rZ (wZ rg (o_iface (by rw [td83]; trivial) (v := .int .i64 3) rfl (asZ (.iface 83 (.int .i64 3)) rfl (nZ ?_)))))
          refine Vc.ret' ?_
          refine res_tmp (v := .iface 83 (.int .i64 3)) rfl (res_nil ?_)
          show Gives _ (.iface 83 (.int .i64 3)) _
          exact gives_out hrg (VW.refl _) (hQ _ h)
        replace h := h.2 hb3
        refine Vc.skip' ?_
        refine qZ (qZ (rZ (mvZ (.sl 1 rg 23 g3 0 seen.length) rfl (mvZ (.int .i64 (at' o x1)) rfl (wZ rg (o_idxR0 td139 sz4 (by decide) rfl rfl h.1 ?_))))))
        have hi := h.1
        replace h := h.2
        refine wZ rg (o_loadR1 (atL (k := 23) rfl) sz4 ag4 rfl (lt_of hi (by first | rfl | omega | (simp only [go_sem] <;> omega))) rfl (v := .bool (at' seen (at' o x1))) rfl (nZ ?_))
        refine Vc.cond' rfl (fun hb4 => ?_) (fun hb4 => ?_)
        · replace h := h.1 hb4
          refine qZ (rZ (wZ rg (o_iface (by rw [td83]; trivial) (v := .int .i64 6) rfl (asZ (.iface 83 (.int .i64 6)) rfl (nZ ?_)))))
          refine Vc.ret' ?_
          refine res_tmp (v := .iface 83 (.int .i64 6)) rfl (res_nil ?_)
          show Gives _ (.iface 83 (.int .i64 6)) _
          exact gives_out hrg (VW.refl _) (hQ _ h)
        replace h := h.2 hb4
        refine Vc.skip' ?_
        refine rZ ?_
        refine mvZ (.sl 1 rg 23 g3 0 seen.length) rfl (mvZ (.int .i64 (at' o x1)) rfl (wZ rg (o_idxR0 td139 sz4 (by decide) rfl rfl h.1 ?_)))
        have hi1 := h.1
        replace h := h.2
        refine wZ rg (o_storeR1 (atL (k := 23) rfl) sz4 (by decide) (x' := true) (fun _ => rfl) rfl rfl (lt_of hi1 (by first | rfl | omega | (simp only [go_sem] <;> omega))) rfl rfl setL (nZ (rZ (wZ rg (o_addG rfl rfl h.1 ?_)))))
        replace h := h.2
        refine mvZ (.int .i64 (x1 + 1)) rfl (nZ ?_)
        exact ⟨(((x1 + 1), (set' seen (at' o x1) true)), g3), (canon (fc vr (fc (VW.slen (by first | rfl | omega | (simp only [go_sem] <;> omega))) (fc vr (fc vr (fc vr (fn)))))) (sc rfl (sn))), h⟩
      refine rZ ?_
      refine mvZ (.int .i64 (at' o x1)) rfl (wZ rg (o_lss rfl rfl (mvZ (.bool (decide ((at' o x1) < 0))) rfl ?_)))
      refine Wl.guard rfl rfl (fun hb5 => ?_) (fun hb5 => ?_)
      · replace h := h.2 hb5
        refine mvZ (.int .i64 (at' o x1)) rfl ?_
        refine Wl.guardT rfl rfl hb5 ?_
        refine mvZ (.int .i64 vars) rfl ?_
        refine Wl.guardT rfl rfl hb5 ?_
        refine wZ rg (o_geq rfl rfl (wZ rg (o_pickF rfl hb5 (v := .bool (decide (vars ≤ (at' o x1)))) rfl (nZ ?_))))
        exact ⟨((decide (vars ≤ (at' o x1))), g2), (canon (fc vr (fc vr (fc vr (fc vr (fc vr (fc vr (fc vr (fn)))))))) (sc rfl (sn))), h⟩
      replace h := h.1 hb5
      refine Wl.guardF rfl rfl hb5 rfl ?_
      refine Wl.guardF rfl rfl hb5 rfl ?_
      refine wZ rg (o_pickT rfl hb5 (v := .bool true) rfl (nZ ?_))
      exact ⟨(true, g2), (canon (fc vr (fc vr (fc vr (fc vr (fc vr (fc vr (fc vr (fn)))))))) (sc rfl (sn))), h⟩
    replace h := h.2 hb2
    refine Vc.exit' (exB_self ?_)
    refine qZ (rZ (asZ .niface rfl (nZ ?_)))
    refine Vc.ret' ?_
    refine res_tmp (v := .niface) rfl (res_nil ?_)
    show Gives _ .niface _
    exact gives_out hrg (VW.refl _) (hQ _ h)
  refine rZ ?_
  refine mvZ (.int .i64 vars) rfl (wZ rg (o_lss rfl rfl (mvZ (.bool (decide (vars < 0))) rfl ?_)))
  refine Wl.guard rfl rfl (fun hb6 => ?_) (fun hb6 => ?_)
  · replace h := h.2 hb6
    refine mvZ (.int .i64 vars) rfl ?_
    refine Wl.guardT rfl rfl hb6 ?_
    refine wZ rg (o_gtr rfl rfl (wZ rg (o_pickF rfl hb6 (v := .bool (decide (24 < vars))) rfl (asZ (.bool (decide (24 < vars))) rfl (nZ ?_)))))
    exact ⟨(decide (24 < vars)), (canon (fc vr (fc vr (fc vr (fn)))) (sn)), h⟩
  replace h := h.1 hb6
  refine Wl.guardF rfl rfl hb6 rfl ?_
  refine wZ rg (o_pickT rfl hb6 (v := .bool true) rfl (asZ (.bool true) rfl (nZ ?_)))
  exact ⟨true, (canon (fc vr (fc vr (fc vr (fn)))) (sn)), h⟩
theorem order_places_ctr {o : List Int} {Q : List Int → Prop} {S : St} {R : AV → St → Prop} (h : order_places_W o Q) (hQ : ∀ r1, Q r1 → R (eL (AV.int .i64) r1) S) :
    Ctr Try.prog 170 [eL (AV.int .i64) o] S R := by
  unfold order_places_W at h
  refine enterT Try.func170 rfl Try.ntmps170 Try.results170 (by kernel_rfl) (fun rg hrg => ?_)
  refine qZ (rZ (asZ .nil rfl (nZ (qZ (rZ (mvZ (eL (AV.int .i64) o) rfl (wZ rg (o_len td22 rfl (wZ rg (o_make td22 bts3 ok3 (enc := AV.int .i64) (z' := 0) zav3 (kk := 1) rfl rfl rfl h.1 (fun g1 => ?_)))))))))))
  replace h := h.2
  refine asZ (.sl 1 rg 8 g1 0 (Int.toNat (o.length : Int))) rfl (nZ (qZ (qZ (rZ (mvZ (eL (AV.int .i64) o) rfl (wZ rg (o_len td22 rfl (mvZ (.int .i64 0) rfl (nZ ?_)))))))))
  refine Vc.blk ?_
  obtain ⟨I, μ, h0, hI⟩ := h
  refine Vc.loop' (σ := (Int × (List Int))) (fun y => I y) (fun y => μ y) (fun y => envOf [(3, .sl 1 rg 8 g1 0 y.2.length), (9, eL (AV.int .i64) o), (10, .int .i64 (o.length : Int)), (11, .int .i64 y.1)]) (fun y => stL S rg [(8, .arr 1 (List.map (AV.int .i64) y.2), g1)]) (0, (rep' (o.length : Int) 0)) (canon (fc (VW.slen (by first | rfl | omega | (simp only [go_sem] <;> omega))) (fc vr (fc vr (fc vr (fn))))) (sc rfl (sn))) h0 (fun y h => ?_)
  obtain ⟨x, out⟩ := y
  replace h := hI (x, out) h
  show Vc _ _ _ _ (envOf [(3, .sl 1 rg 8 g1 0 out.length), (9, eL (AV.int .i64) o), (10, .int .i64 (o.length : Int)), (11, .int .i64 x)]) (stL S rg [(8, .arr 1 (List.map (AV.int .i64) out), g1)])
  refine qZ (rZ (wZ rg (o_lss rfl rfl (nZ (qZ ?_)))))
  refine Vc.cond' rfl (fun hb => ?_) (fun hb => ?_)
  · replace h := h.1 hb
    refine Vc.skip' ?_
    refine qZ ?_
    refine Vc.blk ?_
    refine qZ (rZ (mvZ (.int .i64 x) rfl (wZ rg (o_idxL td22 sz3 (by decide) (fun _ => rfl) rfl rfl h.1 ?_))))
    replace h := h.2
    refine wZ rg (o_loadI1 sz3 ag3 rfl rfl (v := .int .i64 (at' o x)) rfl (asZ (.int .i64 x) rfl (asZ (.int .i64 (at' o x)) rfl (nZ (rZ (mvZ (.sl 1 rg 8 g1 0 out.length) rfl (mvZ (.int .i64 (at' o x)) rfl (mvZ (.int .i64 x) rfl (wZ rg (o_idxR0 td22 sz3 (by decide) rfl rfl h.1 ?_))))))))))
    have hi := h.1
    replace h := h.2
    refine wZ rg (o_storeR1 (atL (k := 8) rfl) sz3 (by decide) (x' := x) (fun _ => rfl) rfl rfl (lt_of hi (by first | rfl | omega | (simp only [go_sem] <;> omega))) rfl rfl setL (nZ (rZ (wZ rg (o_addG rfl rfl h.1 ?_)))))
    replace h := h.2
    refine mvZ (.int .i64 (x + 1)) rfl (nZ ?_)
    exact ⟨((x + 1), (set' out (at' o x) x)), (canon (fc (VW.slen (by first | rfl | omega | (simp only [go_sem] <;> omega))) (fc vr (fc vr (fc vr (fn))))) (sc rfl (sn))), h⟩
  replace h := h.2 hb
  refine Vc.exit' (exB_self ?_)
  refine qZ (rZ (mvZ (.sl 1 rg 8 g1 0 out.length) rfl (asZ (.sl 1 rg 8 g1 0 out.length) rfl (nZ ?_))))
  refine Vc.ret' ?_
  refine res_tmp (v := .sl 1 rg 8 g1 0 out.length) rfl (res_nil ?_)
  show Gives _ (.sl 1 rg 8 g1 0 out.length) _
  refine gives_freeze (k := 8) (xs := List.map (AV.int .i64) out) rfl (v' := eL (AV.int .i64) out) (frz_full rfl) ?_
  exact gives_out hrg (VW.refl _) (hQ _ h)
theorem order_Positions_ctr {o : List Int} {Q : List Int → Option Int → Prop} {S : St} {R : AV → St → Prop} (h : order_Positions_W o Q) (hQ : ∀ r1 r2, Q r1 r2 → R (.tuple [eL (AV.int .i64) r1, eErr 83 r2]) S) :
    Ctr Try.prog 107 [eL (AV.int .i64) o] S R := by
  unfold order_Positions_W at h
  refine enterT Try.func107 rfl Try.ntmps107 Try.results107 (by kernel_rfl) (fun rg hrg => ?_)
  refine qZ (rZ (asZ .nil rfl (asZ .niface rfl (nZ (qZ (qZ (rZ (mvZ (eL (AV.int .i64) o) rfl (mvZ (eL (AV.int .i64) o) rfl (wZ rg (o_len td22 rfl (wZ rg (o_call (us := [eL (AV.int .i64) o, AV.int .i64 (o.length : Int)]) rfl (vl' vr (vl' vr (vn))) (order_Check_ctr h fun err h => (asZ (eErr 83 err) rfl (nZ (qZ (rZ (mvZ (eErr 83 err) rfl (wZ rg (o_isnon td29 (E := 83) rfl rfl rfl (nZ ?_))))))))))))))))))))))
  refine Vc.cond' rfl (fun hb => ?_) (fun hb => ?_)
  · replace h := h.1 hb
    refine qZ (rZ (mvZ (eErr 83 err) rfl (asZ .nil rfl (asZ (eErr 83 err) rfl (nZ ?_)))))
    refine Vc.ret' ?_
    refine res_tmp (v := .nil) rfl (res_tmp (v := eErr 83 err) rfl (res_nil ?_))
    show Gives _ (.tuple [.nil, eErr 83 err]) _
    exact gives_out hrg (VW.tupL (vl' (VW.nilL) (vl' vr (vn)))) (hQ _ _ h)
  replace h := h.2 hb
  refine Vc.skip' ?_
  refine qZ (rZ (mvZ (eL (AV.int .i64) o) rfl (wZ rg (o_call (us := [eL (AV.int .i64) o]) rfl (vl' vr (vn)) (order_places_ctr h fun r h => (asZ (eL (AV.int .i64) r) rfl (asZ .niface rfl (nZ ?_))))))))
  refine Vc.ret' ?_
  refine res_tmp (v := eL (AV.int .i64) r) rfl (res_tmp (v := .niface) rfl (res_nil ?_))
  show Gives _ (.tuple [eL (AV.int .i64) r, .niface]) _
  exact gives_out hrg (VW.tupL (vl' vr (vl' vr (vn)))) (hQ _ _ h)
end Go.Proofs.Ytllegjdggcmgaaa
/- Walks of functions. Conditions: none. -/
namespace Go.Proofs.Ytllegjdggcmgaaa
open Go.Gg
set_option maxRecDepth 100000
theorem diagram_checkNode_ctr {d : GDiagram} {at1 : List Int} {i : Int} {Q : Option Int → Prop} {S : St} {R : AV → St → Prop} (h : diagram_checkNode_W d at1 i Q) (hQ : ∀ r1, Q r1 → R (eErr 83 r1) S) :
    Ctr Try.prog 140 [eDiagram d, eL (AV.int .i64) at1, AV.int .i64 i] S R := by
  unfold diagram_checkNode_W at h
  refine enterT Try.func140 rfl Try.ntmps140 Try.results140 (by kernel_rfl) (fun rg hrg => ?_)
  refine qZ (rZ (wZ rg (o_box (v := eDiagram d) rfl rfl (kk := 3) rfl (by decide) (fun g1 => (asZ .niface rfl (nZ (qZ (rZ (wZ rg (o_faP td25 rfl rfl (by rw [sz23]; decide) rfl (wZ rg (o_loadB1 (atL (k := 3) rfl) sz23 ag23 rfl rfl (v := eL eDNode d.Nodes) rfl (mvZ (.int .i64 i) rfl (wZ rg (o_idxL td23 sz134 (by decide) (fun _ => rfl) rfl rfl h.1 ?_)))))))))))))))
  replace h := h.2
  refine wZ rg (o_loadIA sz134 (by decide) ag134 rfl rfl (v := eDNode (at' d.Nodes i)) rfl (wZ rg (o_alloc zav134 ok134 (kk := 3) rfl (fun g2 => (wZ rg (o_storeB (atL (k := 7) rfl) sz134 (by decide) rfl (w := eDNode (at' d.Nodes i)) rfl rfl rfl (v := eDNode (at' d.Nodes i)) rfl setL (nZ (qZ ?_))))))))
  refine Vc.blk ?_
  obtain ⟨J, h, hJ⟩ := h
  refine Vc.join' (σ := ((Bool) × (Nat × Nat))) (fun y => J y.1) (fun y => envOf [(1, eL (AV.int .i64) at1), (3, .ptr rg 3 y.2.1 0 0), (7, .ptr rg 7 y.2.2 0 0), (15, .bool y.1)]) (fun y => stL S rg [(3, .arr 3 [eDiagram d], y.2.1), (7, .arr 3 [eDNode (at' d.Nodes i)], y.2.2)]) (fun y h => ?_) ?_
  · obtain ⟨x, ⟨g3, g4⟩⟩ := y
    replace h := hJ x h
    show Vc _ _ _ _ (envOf [(1, eL (AV.int .i64) at1), (3, .ptr rg 3 g3 0 0), (7, .ptr rg 7 g4 0 0), (15, .bool x)]) (stL S rg [(3, .arr 3 [eDiagram d], g3), (7, .arr 3 [eDNode (at' d.Nodes i)], g4)])
    refine Vc.cond' rfl (fun hb => ?_) (fun hb => ?_)
    · replace h := h.1 hb
      refine qZ (rZ (wZ rg (o_iface (by rw [td83]; trivial) (v := .int .i64 10) rfl (asZ (.iface 83 (.int .i64 10)) rfl (nZ ?_)))))
      refine Vc.ret' ?_
      refine res_tmp (v := .iface 83 (.int .i64 10)) rfl (res_nil ?_)
      show Gives _ (.iface 83 (.int .i64 10)) _
      exact gives_out hrg (VW.refl _) (hQ _ h)
    replace h := h.2 hb
    refine qZ (rZ (wZ rg (o_faP td134 rfl rfl (by rw [sz3]; decide) rfl (wZ rg (o_loadB1 (atL (k := 7) rfl) sz3 ag3 rfl rfl (v := .int .i64 ((at' d.Nodes i).Lo)) rfl (wZ rg (o_faP td134 rfl rfl (by rw [sz3]; decide) rfl (wZ rg (o_loadB1 (atL (k := 7) rfl) sz3 ag3 rfl rfl (v := .int .i64 ((at' d.Nodes i).Hi)) rfl (wZ rg (o_eql rfl rfl (asZ (.bool ((at' d.Nodes i).Lo == (at' d.Nodes i).Hi)) rfl (nZ ?_)))))))))))))
    refine Vc.cond' rfl (fun hb1 => ?_) (fun hb1 => ?_)
    · replace h := h.1 hb1
      refine qZ (rZ (wZ rg (o_iface (by rw [td83]; trivial) (v := .int .i64 2) rfl (asZ (.iface 83 (.int .i64 2)) rfl (nZ ?_)))))
      refine Vc.ret' ?_
      refine res_tmp (v := .iface 83 (.int .i64 2)) rfl (res_nil ?_)
      show Gives _ (.iface 83 (.int .i64 2)) _
      exact gives_out hrg (VW.refl _) (hQ _ h)
    replace h := h.2 hb1
    refine Vc.skip' ?_
    refine qZ (qZ (rZ (wZ rg (o_faP td134 rfl rfl (by rw [sz3]; decide) rfl (wZ rg (o_loadB1 (atL (k := 7) rfl) sz3 ag3 rfl rfl (v := .int .i64 ((at' d.Nodes i).Lo)) rfl (wZ rg (o_faP td134 rfl rfl (by rw [sz3]; decide) rfl (wZ rg (o_loadB1 (atL (k := 7) rfl) sz3 ag3 rfl rfl (v := .int .i64 ((at' d.Nodes i).Hi)) rfl ?_))))))))))
    refine wZ rg (o_bslice td22 ok3 zav3 (es := [.int .i64 ((at' d.Nodes i).Lo), .int .i64 ((at' d.Nodes i).Hi)]) rfl (kk := 1) rfl rfl rfl rfl rfl rfl (fun g5 => (wZ rg (o_lenR td22 rfl (mvZ (.int .i64 0) rfl (nZ ?_))))))
    refine Vc.blk ?_
    obtain ⟨I, μ, h0, hI⟩ := h
    refine Vc.loop' (σ := ((Int) × (Nat × Nat × Nat))) (fun y => I y.1) (fun y => μ y.1) (fun y => envOf [(1, eL (AV.int .i64) at1), (3, .ptr rg 3 y.2.1 0 0), (7, .ptr rg 7 y.2.2.1 0 0), (57, .sl 1 rg 57 y.2.2.2 0 ([(at' d.Nodes i).Lo, (at' d.Nodes i).Hi].length)), (58, .int .i64 ([(at' d.Nodes i).Lo, (at' d.Nodes i).Hi].length : Int)), (59, .int .i64 y.1)]) (fun y => stL S rg [(3, .arr 3 [eDiagram d], y.2.1), (7, .arr 3 [eDNode (at' d.Nodes i)], y.2.2.1), (57, .arr 1 (List.map (AV.int .i64) [(at' d.Nodes i).Lo, (at' d.Nodes i).Hi]), y.2.2.2)]) (0, (g3, g4, g5)) (canon (fc vr (fc vr (fc vr (fc vr (fc vr (fc vr (fn))))))) (sc rfl (sc rfl (sc rfl (sn))))) h0 (fun y h => ?_)
    obtain ⟨x1, ⟨g6, g7, g8⟩⟩ := y
    replace h := hI x1 h
    show Vc _ _ _ _ (envOf [(1, eL (AV.int .i64) at1), (3, .ptr rg 3 g6 0 0), (7, .ptr rg 7 g7 0 0), (57, .sl 1 rg 57 g8 0 ([(at' d.Nodes i).Lo, (at' d.Nodes i).Hi].length)), (58, .int .i64 ([(at' d.Nodes i).Lo, (at' d.Nodes i).Hi].length : Int)), (59, .int .i64 x1)]) (stL S rg [(3, .arr 3 [eDiagram d], g6), (7, .arr 3 [eDNode (at' d.Nodes i)], g7), (57, .arr 1 (List.map (AV.int .i64) [(at' d.Nodes i).Lo, (at' d.Nodes i).Hi]), g8)])
    refine qZ (rZ (wZ rg (o_lss rfl rfl (nZ (qZ ?_)))))
    refine Vc.cond' rfl (fun hb2 => ?_) (fun hb2 => ?_)
    · replace h := h.1 hb2
      refine Vc.skip' ?_
      refine qZ ?_
      refine Vc.blk ?_
      refine qZ (rZ (wZ rg (o_idxR0 td22 sz3 (by decide) rfl rfl h.1 ?_)))
      have hi := h.1
      replace h := h.2
      refine wZ rg (o_loadR1 (atL (k := 57) rfl) sz3 ag3 rfl (lt_of hi (by first | rfl | omega | (simp only [go_sem] <;> omega))) rfl (v := .int .i64 (at' [(at' d.Nodes i).Lo, (at' d.Nodes i).Hi] x1)) rfl ?_)
      obtain ⟨r, hs⟩ : ∃ qz : Int, qz = (at' [(at' d.Nodes i).Lo, (at' d.Nodes i).Hi] x1) := ⟨_, rfl⟩
      replace h := h r hs
      refine wZ rg (o_assign (v := .int .i64 r) (by subst hs; rfl) (nZ ?_))
      obtain ⟨J, h, hJ⟩ := h
      refine Vc.join' (σ := ((Bool) × (Nat × Nat × Nat))) (fun y => J y.1) (fun y => envOf [(1, eL (AV.int .i64) at1), (3, .ptr rg 3 y.2.1 0 0), (7, .ptr rg 7 y.2.2.1 0 0), (57, .sl 1 rg 57 y.2.2.2 0 ([(at' d.Nodes i).Lo, (at' d.Nodes i).Hi].length)), (58, .int .i64 ([(at' d.Nodes i).Lo, (at' d.Nodes i).Hi].length : Int)), (59, .int .i64 x1), (82, .bool y.1)]) (fun y => stL S rg [(3, .arr 3 [eDiagram d], y.2.1), (7, .arr 3 [eDNode (at' d.Nodes i)], y.2.2.1), (57, .arr 1 (List.map (AV.int .i64) [(at' d.Nodes i).Lo, (at' d.Nodes i).Hi]), y.2.2.2)]) (fun y h => ?_) ?_
      · obtain ⟨x2, ⟨g9, g10, g11⟩⟩ := y
        replace h := hJ x2 h
        show Vc _ _ _ _ (envOf [(1, eL (AV.int .i64) at1), (3, .ptr rg 3 g9 0 0), (7, .ptr rg 7 g10 0 0), (57, .sl 1 rg 57 g11 0 ([(at' d.Nodes i).Lo, (at' d.Nodes i).Hi].length)), (58, .int .i64 ([(at' d.Nodes i).Lo, (at' d.Nodes i).Hi].length : Int)), (59, .int .i64 x1), (82, .bool x2)]) (stL S rg [(3, .arr 3 [eDiagram d], g9), (7, .arr 3 [eDNode (at' d.Nodes i)], g10), (57, .arr 1 (List.map (AV.int .i64) [(at' d.Nodes i).Lo, (at' d.Nodes i).Hi]), g11)])
        refine Vc.cond' rfl (fun hb3 => ?_) (fun hb3 => ?_)
        · replace h := h.1 hb3
          refine qZ (rZ (wZ rg (o_iface (by rw [td83]; trivial) (v := .int .i64 13) rfl (asZ (.iface 83 (.int .i64 13)) rfl (nZ ?_)))))
          refine Vc.ret' ?_
          refine res_tmp (v := .iface 83 (.int .i64 13)) rfl (res_nil ?_)
          show Gives _ (.iface 83 (.int .i64 13)) _
          exact gives_out hrg (VW.refl _) (hQ _ h)
        replace h := h.2 hb3
        refine Vc.skip' ?_
        refine rZ ?_
        refine wZ rg (o_addG rfl rfl h.1 ?_)
        replace h := h.2
        refine mvZ (.int .i64 (x1 + 1)) rfl (nZ ?_)
        exact ⟨((x1 + 1), (g9, g10, g11)), (canon (fc vr (fc vr (fc vr (fc vr (fc vr (fc vr (fn))))))) (sc rfl (sc rfl (sc rfl (sn))))), h⟩
      rcases Bool.eq_false_or_eq_true (decide (2 ≤ r)) with hb4 | hb4
      · replace h := h.1 hb4
        have hg := h.1
        replace h := h.2
        have hg1 := h.1
        replace h := h.2
        have hg2 := h.1
        replace h := h.2
        have hg3 := h.1
        replace h := h.2
        refine Vc.drawn' mixed rg (fun _ => jcr2) (by kernel_rfl) ?_
        refine dP rfl rfl (o_move (v := .int .i64 r) rfl (dP rfl rfl (o_geq rfl rfl (dP rfl rfl (o_move (v := .bool (decide (2 ≤ r))) rfl ?_)))))
        refine dGT rfl rfl hb4 ?_
        refine dP rfl rfl (o_move (v := eL (AV.int .i64) at1) rfl ?_)
        refine dGT rfl rfl rfl ?_
        refine dP rfl rfl (o_faP td25 rfl rfl (by rw [sz23]; decide) rfl ?_)
        refine dGT rfl rfl rfl ?_
        refine dL (E := ([(rg, 3)], [])) rfl rfl (by simp) (cfn) (o_loadB1 (atL (k := 3) rfl) sz23 ag23 rfl rfl (v := eL eDNode d.Nodes) rfl ?_)
        refine dGT rfl rfl rfl ?_
        refine dP rfl rfl (o_move (v := .int .i64 r) rfl ?_)
        refine dGT rfl rfl rfl ?_
        refine dP rfl rfl (o_subG rfl rfl hg ?_)
        refine dGT rfl rfl rfl ?_
        refine dP rfl rfl (o_idxL td23 sz134 (by decide) (fun _ => rfl) rfl rfl hg1 ?_)
        refine dGT rfl rfl rfl ?_
        refine dP rfl rfl (o_fa td134 rfl rfl (by rw [sz3]; decide) rfl rfl ?_)
        refine dGT rfl rfl rfl ?_
        refine dP rfl rfl (o_loadI1 sz3 ag3 rfl rfl (v := .int .i64 ((at' d.Nodes (r - 2)).Var)) rfl ?_)
        refine dGT rfl rfl rfl ?_
        refine dP rfl rfl (o_idxL td22 sz3 (by decide) (fun _ => rfl) rfl rfl hg2 ?_)
        refine dGT rfl rfl rfl ?_
        refine dP rfl rfl (o_loadI1 sz3 ag3 rfl rfl (v := .int .i64 (at' at1 ((at' d.Nodes (r - 2)).Var))) rfl ?_)
        refine dGT rfl rfl rfl ?_
        refine dP rfl rfl (o_move (v := eL (AV.int .i64) at1) rfl ?_)
        refine dGT rfl rfl rfl ?_
        refine dP rfl rfl (o_faP td134 rfl rfl (by rw [sz3]; decide) rfl ?_)
        refine dGT rfl rfl rfl ?_
        refine dL (E := ([(rg, 7)], [])) rfl rfl (by simp) (cfa (by simp [apartE]) (cfn)) (o_loadB1 (atL (k := 7) rfl) sz3 ag3 rfl rfl (v := .int .i64 ((at' d.Nodes i).Var)) rfl ?_)
        refine dGT rfl rfl rfl ?_
        refine dP rfl rfl (o_idxL td22 sz3 (by decide) (fun _ => rfl) rfl rfl hg3 ?_)
        refine dGT rfl rfl rfl ?_
        refine dP rfl rfl (o_loadI1 sz3 ag3 rfl rfl (v := .int .i64 (at' at1 ((at' d.Nodes i).Var))) rfl ?_)
        refine dGT rfl rfl rfl ?_
        refine dP rfl rfl (o_leq rfl rfl (dP rfl rfl (o_pickT rfl rfl (v := .bool (decide ((at' at1 ((at' d.Nodes (r - 2)).Var)) ≤ (at' at1 ((at' d.Nodes i).Var))))) rfl (dN ?_))))
        exact ⟨((decide ((at' at1 ((at' d.Nodes (r - 2)).Var)) ≤ (at' at1 ((at' d.Nodes i).Var)))), (g6, g7, g8)), (canon (fc vr (fc vr (fc vr (fc vr (fc vr (fc vr (fc vr (fn)))))))) (sc rfl (sc rfl (sc rfl (sn))))), h⟩
      replace h := h.2 hb4
      refine Vc.drawn' mixed rg (fun _ => jcr2) (by kernel_rfl) ?_
      refine dP rfl rfl (o_move (v := .int .i64 r) rfl (dP rfl rfl (o_geq rfl rfl (dP rfl rfl (o_move (v := .bool (decide (2 ≤ r))) rfl ?_)))))
      refine dGF rfl rfl hb4 rfl ?_
      refine dGF rfl rfl rfl rfl ?_
      refine dGF rfl rfl rfl rfl ?_
      refine dGF rfl rfl rfl rfl ?_
      refine dGF rfl rfl rfl rfl ?_
      refine dGF rfl rfl rfl rfl ?_
      refine dGF rfl rfl rfl rfl ?_
      refine dGF rfl rfl rfl rfl ?_
      refine dGF rfl rfl rfl rfl ?_
      refine dGF rfl rfl rfl rfl ?_
      refine dGF rfl rfl rfl rfl ?_
      refine dGF rfl rfl rfl rfl ?_
      refine dGF rfl rfl rfl rfl ?_
      refine dGF rfl rfl rfl rfl ?_
      refine dGF rfl rfl rfl rfl ?_
      refine dGF rfl rfl rfl rfl ?_
      refine dP rfl rfl (o_pickF rfl rfl (v := .bool false) rfl (dN ?_))
      exact ⟨(false, (g6, g7, g8)), (canon (fc vr (fc vr (fc vr (fc vr (fc vr (fc vr (fc vr (fn)))))))) (sc rfl (sc rfl (sc rfl (sn))))), h⟩
    replace h := h.2 hb2
    refine Vc.exit' (exB_self ?_)
    refine qZ (rZ (asZ .niface rfl (nZ ?_)))
    refine Vc.ret' ?_
    refine res_tmp (v := .niface) rfl (res_nil ?_)
    show Gives _ .niface _
    exact gives_out hrg (VW.refl _) (hQ _ h)
  refine rZ ?_
  refine wZ rg (o_faP td134 rfl rfl (by rw [sz3]; decide) rfl (wZ rg (o_loadB1 (atL (k := 7) rfl) sz3 ag3 rfl rfl (v := .int .i64 ((at' d.Nodes i).Var)) rfl (wZ rg (o_lss rfl rfl (mvZ (.bool (decide ((at' d.Nodes i).Var < 0))) rfl ?_))))))
  refine Wl.guard rfl rfl (fun hb5 => ?_) (fun hb5 => ?_)
  · replace h := h.2 hb5
    refine wZ rg (o_faP td134 rfl rfl (by rw [sz3]; decide) rfl ?_)
    refine Wl.guardT rfl rfl hb5 ?_
    refine wZ rg (o_loadB1 (atL (k := 7) rfl) sz3 ag3 rfl rfl (v := .int .i64 ((at' d.Nodes i).Var)) rfl ?_)
    refine Wl.guardT rfl rfl hb5 ?_
    refine wZ rg (o_faP td25 rfl rfl (by rw [sz22]; decide) rfl ?_)
    refine Wl.guardT rfl rfl hb5 ?_
    refine wZ rg (o_loadB1 (atL (k := 3) rfl) sz22 ag22 rfl rfl (v := eL (AV.int .i64) d.Order) rfl ?_)
    refine Wl.guardT rfl rfl hb5 ?_
    refine wZ rg (o_len td22 rfl ?_)
    refine Wl.guardT rfl rfl hb5 ?_
    refine wZ rg (o_geq rfl rfl (wZ rg (o_pickF rfl hb5 (v := .bool (decide ((d.Order.length : Int) ≤ (at' d.Nodes i).Var))) rfl (mvZ (.bool (decide ((d.Order.length : Int) ≤ (at' d.Nodes i).Var))) rfl ?_))))
    refine Wl.guard rfl rfl (fun hb6 => ?_) (fun hb6 => ?_)
    · replace h := h.2 hb6
      refine wZ rg (o_faP td134 rfl rfl (by rw [sz3]; decide) rfl ?_)
      refine Wl.guardT rfl rfl hb6 ?_
      refine wZ rg (o_loadB1 (atL (k := 7) rfl) sz3 ag3 rfl rfl (v := .int .i64 ((at' d.Nodes i).Lo)) rfl ?_)
      refine Wl.guardT rfl rfl hb6 ?_
      refine wZ rg (o_faP td134 rfl rfl (by rw [sz3]; decide) rfl ?_)
      refine Wl.guardT rfl rfl hb6 ?_
      refine wZ rg (o_loadB1 (atL (k := 7) rfl) sz3 ag3 rfl rfl (v := .int .i64 ((at' d.Nodes i).Hi)) rfl ?_)
      refine Wl.guardT rfl rfl hb6 ?_
      refine wZ rg (o_min rfl rfl ?_)
      refine Wl.guardT rfl rfl hb6 ?_
      refine wZ rg (o_lss rfl rfl (wZ rg (o_pickF rfl hb6 (v := .bool (decide ((min ((at' d.Nodes i).Lo) ((at' d.Nodes i).Hi)) < 0))) rfl (mvZ (.bool (decide ((min ((at' d.Nodes i).Lo) ((at' d.Nodes i).Hi)) < 0))) rfl ?_))))
      refine Wl.guard rfl rfl (fun hb7 => ?_) (fun hb7 => ?_)
      · replace h := h.2 hb7
        refine wZ rg (o_faP td134 rfl rfl (by rw [sz3]; decide) rfl ?_)
        refine Wl.guardT rfl rfl hb7 ?_
        refine wZ rg (o_loadB1 (atL (k := 7) rfl) sz3 ag3 rfl rfl (v := .int .i64 ((at' d.Nodes i).Lo)) rfl ?_)
        refine Wl.guardT rfl rfl hb7 ?_
        refine wZ rg (o_faP td134 rfl rfl (by rw [sz3]; decide) rfl ?_)
        refine Wl.guardT rfl rfl hb7 ?_
        refine wZ rg (o_loadB1 (atL (k := 7) rfl) sz3 ag3 rfl rfl (v := .int .i64 ((at' d.Nodes i).Hi)) rfl ?_)
        refine Wl.guardT rfl rfl hb7 ?_
        refine wZ rg (o_max rfl rfl ?_)
        refine Wl.guardT rfl rfl hb7 ?_
        refine mvZ (.int .i64 i) rfl ?_
        refine Wl.guardT rfl rfl hb7 ?_
        refine wZ rg (o_addG rfl rfl h.1 ?_)
        replace h := h.2
        refine Wl.guardT rfl rfl hb7 ?_
        refine wZ rg (o_gtr rfl rfl (wZ rg (o_pickF rfl hb7 (v := .bool (decide ((1 + i) < (max ((at' d.Nodes i).Lo) ((at' d.Nodes i).Hi))))) rfl (asZ (.bool (decide ((1 + i) < (max ((at' d.Nodes i).Lo) ((at' d.Nodes i).Hi))))) rfl (nZ ?_)))))
        exact ⟨((decide ((1 + i) < (max ((at' d.Nodes i).Lo) ((at' d.Nodes i).Hi)))), (g1, g2)), (canon (fc vr (fc vr (fc vr (fc vr (fn))))) (sc rfl (sc rfl (sn)))), h⟩
      replace h := h.1 hb7
      refine Wl.guardF rfl rfl hb7 rfl ?_
      refine Wl.guardF rfl rfl hb7 rfl ?_
      refine Wl.guardF rfl rfl hb7 rfl ?_
      refine Wl.guardF rfl rfl hb7 rfl ?_
      refine Wl.guardF rfl rfl hb7 rfl ?_
      refine Wl.guardF rfl rfl hb7 rfl ?_
      refine Wl.guardF rfl rfl hb7 rfl ?_
      refine wZ rg (o_pickT rfl hb7 (v := .bool true) rfl (asZ (.bool true) rfl (nZ ?_)))
      exact ⟨(true, (g1, g2)), (canon (fc vr (fc vr (fc vr (fc vr (fn))))) (sc rfl (sc rfl (sn)))), h⟩
    replace h := h.1 hb6
    refine Wl.guardF rfl rfl hb6 rfl ?_
    refine Wl.guardF rfl rfl hb6 rfl ?_
    refine Wl.guardF rfl rfl hb6 rfl ?_
    refine Wl.guardF rfl rfl hb6 rfl ?_
    refine Wl.guardF rfl rfl hb6 rfl ?_
    refine wZ rg (o_pickT rfl hb6 (v := .bool true) rfl (mvZ (.bool true) rfl ?_))
    refine Wl.guardF rfl rfl rfl rfl ?_
    refine Wl.guardF rfl rfl rfl rfl ?_
    refine Wl.guardF rfl rfl rfl rfl ?_
    refine Wl.guardF rfl rfl rfl rfl ?_
    refine Wl.guardF rfl rfl rfl rfl ?_
    refine Wl.guardF rfl rfl rfl rfl ?_
    refine Wl.guardF rfl rfl rfl rfl ?_
    refine Wl.guardF rfl rfl rfl rfl ?_
    refine wZ rg (o_pickT rfl rfl (v := .bool true) rfl (asZ (.bool true) rfl (nZ ?_)))
    exact ⟨(true, (g1, g2)), (canon (fc vr (fc vr (fc vr (fc vr (fn))))) (sc rfl (sc rfl (sn)))), h⟩
  replace h := h.1 hb5
  refine Wl.guardF rfl rfl hb5 rfl ?_
  refine Wl.guardF rfl rfl hb5 rfl ?_
  refine Wl.guardF rfl rfl hb5 rfl ?_
  refine Wl.guardF rfl rfl hb5 rfl ?_
  refine Wl.guardF rfl rfl hb5 rfl ?_
  refine wZ rg (o_pickT rfl hb5 (v := .bool true) rfl (mvZ (.bool true) rfl ?_))
  refine Wl.guardF rfl rfl rfl rfl ?_
  refine Wl.guardF rfl rfl rfl rfl ?_
  refine Wl.guardF rfl rfl rfl rfl ?_
  refine Wl.guardF rfl rfl rfl rfl ?_
  refine Wl.guardF rfl rfl rfl rfl ?_
  refine Wl.guardF rfl rfl rfl rfl ?_
  refine wZ rg (o_pickT rfl rfl (v := .bool true) rfl (mvZ (.bool true) rfl ?_))
  refine Wl.guardF rfl rfl rfl rfl ?_
  refine Wl.guardF rfl rfl rfl rfl ?_
  refine Wl.guardF rfl rfl rfl rfl ?_
  refine Wl.guardF rfl rfl rfl rfl ?_
  refine Wl.guardF rfl rfl rfl rfl ?_
  refine Wl.guardF rfl rfl rfl rfl ?_
  refine Wl.guardF rfl rfl rfl rfl ?_
  refine Wl.guardF rfl rfl rfl rfl ?_
  refine wZ rg (o_pickT rfl rfl (v := .bool true) rfl (asZ (.bool true) rfl (nZ ?_)))
  exact ⟨(true, (g1, g2)), (canon (fc vr (fc vr (fc vr (fc vr (fn))))) (sc rfl (sc rfl (sn)))), h⟩
theorem diagram_numbered_1__e_ctr {fu : Nat} : ∀ {r : Int} {u : GDiagram} {u1 : Bool} {u2 : Int} {u3 : List Bool} {q0 k0 g0 q1 k1 g1 q2 k2 g2 q3 k3 g3 q4 k4 g4 q5 k5 g5 : Nat} (_hdk : DK [(q0, k0), (q3, k3), (q4, k4), (q5, k5), (q1, k1), (q2, k2)]) {Q : Bool → Int → List Bool → Prop} {S : St} {R : AV → St → Prop} (_h : diagram_numbered_1__e_W fu r u u1 u2 u3 Q) (_hQ : ∀ r1 r2 r3, Q r1 r2 r3 → R (.tuple []) (stX S [(q0, k0, .arr 1 [.sl 1 q5 k5 g5 0 r3.length], g0), (q3, k3, .arr 1 [.bool r1], g3), (q4, k4, .arr 1 [.int .i64 r2], g4), (q5, k5, .arr 1 (List.map AV.bool r3), g5), (q1, k1, .arr 1 [.fn (.func 193) [] [.ptr q0 k0 g0 0 0, .ptr q1 k1 g1 0 0, .ptr q2 k2 g2 0 0, .ptr q3 k3 g3 0 0, .ptr q4 k4 g4 0 0]], g1), (q2, k2, .arr 3 [eDiagram u], g2)])),
    Ctr Try.prog 193 [AV.int .i64 r, .ptr q0 k0 g0 0 0, .ptr q1 k1 g1 0 0, .ptr q2 k2 g2 0 0, .ptr q3 k3 g3 0 0, .ptr q4 k4 g4 0 0] (stX S [(q0, k0, .arr 1 [.sl 1 q5 k5 g5 0 u3.length], g0), (q3, k3, .arr 1 [.bool u1], g3), (q4, k4, .arr 1 [.int .i64 u2], g4), (q5, k5, .arr 1 (List.map AV.bool u3), g5), (q1, k1, .arr 1 [.fn (.func 193) [] [.ptr q0 k0 g0 0 0, .ptr q1 k1 g1 0 0, .ptr q2 k2 g2 0 0, .ptr q3 k3 g3 0 0, .ptr q4 k4 g4 0 0]], g1), (q2, k2, .arr 3 [eDiagram u], g2)]) R := by
  induction fu with
  | zero =>
    intro r u u1 u2 u3 q0 k0 g0 q1 k1 g1 q2 k2 g2 q3 k3 g3 q4 k4 g4 q5 k5 g5 hdk Q S R h hQ
    exact False.elim h
  | succ fu ih =>
  intro r u u1 u2 u3 q0 k0 g0 q1 k1 g1 q2 k2 g2 q3 k3 g3 q4 k4 g4 q5 k5 g5 hdk Q S R h hQ
  rw [diagram_numbered_1__e_W] at h
  refine enterT Try.func193 rfl Try.ntmps193 Try.results193 (by kernel_rfl) (fun rg hrg => ?_)
  have hdx : DX [(q0, k0, .arr 1 [.sl 1 q5 k5 g5 0 u3.length], g0), (q3, k3, .arr 1 [.bool u1], g3), (q4, k4, .arr 1 [.int .i64 u2], g4), (q5, k5, .arr 1 (List.map AV.bool u3), g5), (q1, k1, .arr 1 [.fn (.func 193) [] [.ptr q0 k0 g0 0 0, .ptr q1 k1 g1 0 0, .ptr q2 k2 g2 0 0, .ptr q3 k3 g3 0 0, .ptr q4 k4 g4 0 0]], g1), (q2, k2, .arr 3 [eDiagram u], g2)] := hdk
  have hfr := fun X' e => fresh_set (S := S) (rg := rg) (X := [(q0, k0, .arr 1 [.sl 1 q5 k5 g5 0 u3.length], g0), (q3, k3, .arr 1 [.bool u1], g3), (q4, k4, .arr 1 [.int .i64 u2], g4), (q5, k5, .arr 1 (List.map AV.bool u3), g5), (q1, k1, .arr 1 [.fn (.func 193) [] [.ptr q0 k0 g0 0 0, .ptr q1 k1 g1 0 0, .ptr q2 k2 g2 0 0, .ptr q3 k3 g3 0 0, .ptr q4 k4 g4 0 0]], g1), (q2, k2, .arr 3 [eDiagram u], g2)]) (X' := X') e hrg
  have hne0 := fresh_ne hdx hrg 0 rfl
  have hne3 := fresh_ne hdx hrg 1 rfl
  have hne4 := fresh_ne hdx hrg 2 rfl
  have hne5 := fresh_ne hdx hrg 3 rfl
  have hne1 := fresh_ne hdx hrg 4 rfl
  have hne2 := fresh_ne hdx hrg 5 rfl
  refine qZ (qZ (rZ (mvZ (.int .i64 r) rfl (wZ rg (o_lss rfl rfl (mvZ (.bool (decide (r < 2))) rfl ?_))))))
  refine Wl.guard rfl rfl (fun hb => ?_) (fun hb => ?_)
  · replace h := h.2 hb
    refine wZ rg (o_loadB1 (atX hne0 hdx 0 rfl) sz139 ag139 rfl rfl (v := .sl 1 q5 k5 g5 0 u3.length) rfl ?_)
    refine Wl.guardT rfl rfl hb ?_
    refine mvZ (.int .i64 r) rfl ?_
    refine Wl.guardT rfl rfl hb ?_
    refine wZ rg (o_subG rfl rfl h.1 ?_)
    replace h := h.2
    refine Wl.guardT rfl rfl hb ?_
    refine wZ rg (o_idxR0 td139 sz4 (by decide) rfl rfl h.1 ?_)
    have hi := h.1
    replace h := h.2
    refine Wl.guardT rfl rfl hb ?_
    refine wZ rg (o_loadR1 (atX hne5 hdx 3 rfl) sz4 ag4 rfl (lt_of hi (by first | rfl | omega | (simp only [go_sem] <;> omega))) rfl (v := .bool (at' u3 (r - 2))) rfl (wZ rg (o_pickF rfl hb (v := .bool (at' u3 (r - 2))) rfl (nZ ?_))))
    refine Vc.cond' rfl (fun hb1 => ?_) (fun hb1 => ?_)
    · replace h := h.1 hb1
      refine Vc.ret' ?_
      refine res_nil ?_
      show Gives _ (.tuple []) _
      exact gives_out (hfr _ rfl) (VW.refl _) (hQ _ _ _ h)
    replace h := h.2 hb1
    refine Vc.skip' ?_
    refine qZ (rZ (wZ rg (o_loadB1 (atX hne0 hdx 0 rfl) sz139 ag139 rfl rfl (v := .sl 1 q5 k5 g5 0 u3.length) rfl (mvZ (.int .i64 r) rfl (wZ rg (o_subG rfl rfl h.1 ?_))))))
    replace h := h.2
    refine wZ rg (o_idxR0 td139 sz4 (by decide) rfl rfl h.1 ?_)
    have hi1 := h.1
    replace h := h.2
    refine wZ rg (o_storeR1 (atX hne5 hdx 3 rfl) sz4 (by decide) (x' := true) (fun _ => rfl) rfl rfl (lt_of hi1 (by first | rfl | omega | (simp only [go_sem] <;> omega))) rfl rfl (setX hne5 hdx 3 rfl rfl) (nZ (qZ ?_)))
    have hg := h.1
    replace h := h.2
    have hg1 := h.1
    replace h := h.2
    obtain ⟨u4, u5, u6, hc, hl, h⟩ := h
    refine Vc.drawn' mixed rg (usOf [(8, wc (fun _ => .tuple []) [(q1, k1), (q2, k2)] [(q0, k0), (q3, k3), (q4, k4), (q5, k5)] (fun _ => [(q0, k0, .arr 1 [.sl 1 q5 k5 g5 0 u6.length], g0), (q3, k3, .arr 1 [.bool u4], g3), (q4, k4, .arr 1 [.int .i64 u5], g4), (q5, k5, .arr 1 (List.map AV.bool u6), g5)]))]) (by kernel_rfl) ?_
    refine dL (E := ([(q1, k1)], [])) rfl rfl (by simp) (cfn) (o_loadB1 (atX hne1 hdx 4 rfl) sz200 ag200 rfl rfl (v := .fn (.func 193) [] [.ptr q0 k0 g0 0 0, .ptr q1 k1 g1 0 0, .ptr q2 k2 g2 0 0, .ptr q3 k3 g3 0 0, .ptr q4 k4 g4 0 0]) rfl (dP rfl rfl (o_faP td25 rfl rfl (by rw [sz23]; decide) rfl ?_)))
    refine dL (E := ([(q2, k2)], [])) rfl rfl (by simp) (cfa (by simp [apartE]) (cfn)) (o_loadB1 (atX hne2 hdx 5 rfl) sz23 ag23 rfl rfl (v := eL eDNode u.Nodes) rfl (dP rfl rfl (o_move (v := .int .i64 r) rfl (dP rfl rfl (o_subG rfl rfl hg (dP rfl rfl (o_idxL td23 sz134 (by decide) (fun _ => rfl) rfl rfl hg1 (dP rfl rfl (o_fa td134 rfl rfl (by rw [sz3]; decide) rfl rfl ?_)))))))))
    refine dP rfl rfl (o_loadI1 sz3 ag3 rfl rfl (v := .int .i64 ((at' u.Nodes (r - 2)).Lo)) rfl ?_)
    refine vdT.eqS (congrArg (fun nQ => stL (stX S [(q0, k0, .arr 1 [.sl 1 q5 k5 g5 0 nQ], g0), (q3, k3, .arr 1 [.bool u1], g3), (q4, k4, .arr 1 [.int .i64 u2], g4), (q5, k5, .arr 1 (List.map AV.bool (set' u3 (r - 2) true)), g5), (q1, k1, .arr 1 [.fn (.func 193) [] [.ptr q0 k0 g0 0 0, .ptr q1 k1 g1 0 0, .ptr q2 k2 g2 0 0, .ptr q3 k3 g3 0 0, .ptr q4 k4 g4 0 0]], g1), (q2, k2, .arr 3 [eDiagram u], g2)]) rg []) (show u3.length = (set' u3 (r - 2) true).length from by first | rfl | omega | (simp only [go_sem] <;> omega))) ?_
    refine dCE (vs := [AV.int .i64 ((at' u.Nodes (r - 2)).Lo), .ptr q0 k0 g0 0 0, .ptr q1 k1 g1 0 0, .ptr q2 k2 g2 0 0, .ptr q3 k3 g3 0 0, .ptr q4 k4 g4 0 0]) (V := fun _ => .tuple []) (rd := [(q1, k1), (q2, k2)]) (wk := [(q0, k0), (q3, k3), (q4, k4), (q5, k5)]) (wr := fun _ => [(q0, k0, .arr 1 [.sl 1 q5 k5 g5 0 u6.length], g0), (q3, k3, .arr 1 [.bool u4], g3), (q4, k4, .arr 1 [.int .i64 u5], g4), (q5, k5, .arr 1 (List.map AV.bool u6), g5)]) rfl (vl' vr (vl' vr (vl' vr (vl' vr (vl' vr (vl' vr (vn))))))) rfl (cfo (by kernel_rfl) (cfo (by kernel_rfl) (cfn))) (by simp) (fun _ => rfl) (fun S' hA hB => ctrX (sx_c (ag hB 0 rfl (atX hne0 hdx 0 rfl)) (sx_c (ag hB 1 rfl (atX hne3 hdx 1 rfl)) (sx_c (ag hB 2 rfl (atX hne4 hdx 2 rfl)) (sx_c (ag hB 3 rfl (atX hne5 hdx 3 rfl)) (sx_c (ag hA 0 rfl (atX hne1 hdx 4 rfl)) (sx_c (ag hA 1 rfl (atX hne2 hdx 5 rfl)) (sx_n))))))) (ih (dk_c (ni_c (dk_at 0 1 hdk rfl rfl rfl) (ni_c (dk_at 0 2 hdk rfl rfl rfl) (ni_c (dk_at 0 3 hdk rfl rfl rfl) (ni_c (dk_at 0 4 hdk rfl rfl rfl) (ni_c (dk_at 0 5 hdk rfl rfl rfl) (ni_n)))))) (dk_c (ni_c (dk_at 1 2 hdk rfl rfl rfl) (ni_c (dk_at 1 3 hdk rfl rfl rfl) (ni_c (dk_at 1 4 hdk rfl rfl rfl) (ni_c (dk_at 1 5 hdk rfl rfl rfl) (ni_n))))) (dk_c (ni_c (dk_at 2 3 hdk rfl rfl rfl) (ni_c (dk_at 2 4 hdk rfl rfl rfl) (ni_c (dk_at 2 5 hdk rfl rfl rfl) (ni_n)))) (dk_c (ni_c (dk_at 3 4 hdk rfl rfl rfl) (ni_c (dk_at 3 5 hdk rfl rfl rfl) (ni_n))) (dk_c (ni_c (dk_at 4 5 hdk rfl rfl rfl) (ni_n)) (dk_c (ni_n) (dk_n))))))) hc (fun _ _ _ he => by obtain ⟨rfl, rfl, rfl⟩ := he; exact ⟨fun i => ([] : List Nat).getD i 0, rfl, sm_c (sm_c (sm_c (sm_c (sx_c (ag hA 0 rfl (atX hne1 hdx 4 rfl)) (sx_c (ag hA 1 rfl (atX hne2 hdx 5 rfl)) (sx_n))))))⟩))) (fun _ => ?_)
    refine vdT.eqS (sa_c (sa_c (sa_c (sa_c (sa_n) (setX hne5 hdx 3 rfl rfl)) (setX hne4 hdx 2 rfl rfl)) (setX hne3 hdx 1 rfl rfl)) (setX hne0 hdx 0 rfl rfl)) ?_
    refine dN ?_
    refine qZ ?_
    have hg2 := h.1
    replace h := h.2
    have hg3 := h.1
    replace h := h.2
    obtain ⟨u7, u8, u9, hc1, hl1, h⟩ := h
    refine Vc.drawn' mixed rg (usOf [(8, wc (fun _ => .tuple []) [(q1, k1), (q2, k2)] [(q0, k0), (q3, k3), (q4, k4), (q5, k5)] (fun _ => [(q0, k0, .arr 1 [.sl 1 q5 k5 g5 0 u9.length], g0), (q3, k3, .arr 1 [.bool u7], g3), (q4, k4, .arr 1 [.int .i64 u8], g4), (q5, k5, .arr 1 (List.map AV.bool u9), g5)]))]) (by kernel_rfl) ?_
    refine dL (E := ([(q1, k1)], [])) rfl rfl (by simp) (cfn) (o_loadB1 (atX hne1 hdx 4 rfl) sz200 ag200 rfl rfl (v := .fn (.func 193) [] [.ptr q0 k0 g0 0 0, .ptr q1 k1 g1 0 0, .ptr q2 k2 g2 0 0, .ptr q3 k3 g3 0 0, .ptr q4 k4 g4 0 0]) rfl (dP rfl rfl (o_faP td25 rfl rfl (by rw [sz23]; decide) rfl ?_)))
    refine dL (E := ([(q2, k2)], [])) rfl rfl (by simp) (cfa (by simp [apartE]) (cfn)) (o_loadB1 (atX hne2 hdx 5 rfl) sz23 ag23 rfl rfl (v := eL eDNode u.Nodes) rfl (dP rfl rfl (o_move (v := .int .i64 r) rfl (dP rfl rfl (o_subG rfl rfl hg2 (dP rfl rfl (o_idxL td23 sz134 (by decide) (fun _ => rfl) rfl rfl hg3 (dP rfl rfl (o_fa td134 rfl rfl (by rw [sz3]; decide) rfl rfl ?_)))))))))
    refine dP rfl rfl (o_loadI1 sz3 ag3 rfl rfl (v := .int .i64 ((at' u.Nodes (r - 2)).Hi)) rfl ?_)
    refine dCE (vs := [AV.int .i64 ((at' u.Nodes (r - 2)).Hi), .ptr q0 k0 g0 0 0, .ptr q1 k1 g1 0 0, .ptr q2 k2 g2 0 0, .ptr q3 k3 g3 0 0, .ptr q4 k4 g4 0 0]) (V := fun _ => .tuple []) (rd := [(q1, k1), (q2, k2)]) (wk := [(q0, k0), (q3, k3), (q4, k4), (q5, k5)]) (wr := fun _ => [(q0, k0, .arr 1 [.sl 1 q5 k5 g5 0 u9.length], g0), (q3, k3, .arr 1 [.bool u7], g3), (q4, k4, .arr 1 [.int .i64 u8], g4), (q5, k5, .arr 1 (List.map AV.bool u9), g5)]) rfl (vl' vr (vl' vr (vl' vr (vl' vr (vl' vr (vl' vr (vn))))))) rfl (cfo (by kernel_rfl) (cfo (by kernel_rfl) (cfn))) (by simp) (fun _ => rfl) (fun S' hA hB => ctrX (sx_c (ag hB 0 rfl (atX hne0 hdx 0 rfl)) (sx_c (ag hB 1 rfl (atX hne3 hdx 1 rfl)) (sx_c (ag hB 2 rfl (atX hne4 hdx 2 rfl)) (sx_c (ag hB 3 rfl (atX hne5 hdx 3 rfl)) (sx_c (ag hA 0 rfl (atX hne1 hdx 4 rfl)) (sx_c (ag hA 1 rfl (atX hne2 hdx 5 rfl)) (sx_n))))))) (ih (dk_c (ni_c (dk_at 0 1 hdk rfl rfl rfl) (ni_c (dk_at 0 2 hdk rfl rfl rfl) (ni_c (dk_at 0 3 hdk rfl rfl rfl) (ni_c (dk_at 0 4 hdk rfl rfl rfl) (ni_c (dk_at 0 5 hdk rfl rfl rfl) (ni_n)))))) (dk_c (ni_c (dk_at 1 2 hdk rfl rfl rfl) (ni_c (dk_at 1 3 hdk rfl rfl rfl) (ni_c (dk_at 1 4 hdk rfl rfl rfl) (ni_c (dk_at 1 5 hdk rfl rfl rfl) (ni_n))))) (dk_c (ni_c (dk_at 2 3 hdk rfl rfl rfl) (ni_c (dk_at 2 4 hdk rfl rfl rfl) (ni_c (dk_at 2 5 hdk rfl rfl rfl) (ni_n)))) (dk_c (ni_c (dk_at 3 4 hdk rfl rfl rfl) (ni_c (dk_at 3 5 hdk rfl rfl rfl) (ni_n))) (dk_c (ni_c (dk_at 4 5 hdk rfl rfl rfl) (ni_n)) (dk_c (ni_n) (dk_n))))))) hc1 (fun _ _ _ he => by obtain ⟨rfl, rfl, rfl⟩ := he; exact ⟨fun i => ([] : List Nat).getD i 0, rfl, sm_c (sm_c (sm_c (sm_c (sx_c (ag hA 0 rfl (atX hne1 hdx 4 rfl)) (sx_c (ag hA 1 rfl (atX hne2 hdx 5 rfl)) (sx_n))))))⟩))) (fun _ => ?_)
    refine vdT.eqS (sa_c (sa_c (sa_c (sa_c (sa_n) (setX hne5 hdx 3 rfl rfl)) (setX hne4 hdx 2 rfl rfl)) (setX hne3 hdx 1 rfl rfl)) (setX hne0 hdx 0 rfl rfl)) ?_
    refine dN ?_
    obtain ⟨J, h, hJ⟩ := h
    refine Vc.join' (σ := (Bool)) (fun y => J y) (fun y => envOf [(5, .ptr q4 k4 g4 0 0)]) (fun y => stL (stX S [(q0, k0, .arr 1 [.sl 1 q5 k5 g5 0 u9.length], g0), (q3, k3, .arr 1 [.bool y], g3), (q4, k4, .arr 1 [.int .i64 u8], g4), (q5, k5, .arr 1 (List.map AV.bool u9), g5), (q1, k1, .arr 1 [.fn (.func 193) [] [.ptr q0 k0 g0 0 0, .ptr q1 k1 g1 0 0, .ptr q2 k2 g2 0 0, .ptr q3 k3 g3 0 0, .ptr q4 k4 g4 0 0]], g1), (q2, k2, .arr 3 [eDiagram u], g2)]) rg []) (fun x h => ?_) ?_
    · replace h := hJ x h
      show Vc _ _ _ _ (envOf [(5, .ptr q4 k4 g4 0 0)]) (stL (stX S [(q0, k0, .arr 1 [.sl 1 q5 k5 g5 0 u9.length], g0), (q3, k3, .arr 1 [.bool x], g3), (q4, k4, .arr 1 [.int .i64 u8], g4), (q5, k5, .arr 1 (List.map AV.bool u9), g5), (q1, k1, .arr 1 [.fn (.func 193) [] [.ptr q0 k0 g0 0 0, .ptr q1 k1 g1 0 0, .ptr q2 k2 g2 0 0, .ptr q3 k3 g3 0 0, .ptr q4 k4 g4 0 0]], g1), (q2, k2, .arr 3 [eDiagram u], g2)]) rg [])
      refine rZ ?_
      refine wZ rg (o_loadB1 (atX hne4 hdx 2 rfl) sz3 ag3 rfl rfl (v := .int .i64 u8) rfl (wZ rg (o_addG rfl rfl h.1 ?_)))
      replace h := h.2
      refine wZ rg (o_storeB (atX hne4 hdx 2 rfl) sz3 (by decide) rfl (w := .int .i64 (u8 + 1)) rfl rfl rfl (v := .int .i64 (u8 + 1)) rfl (setX hne4 hdx 2 rfl rfl) (nZ (res_nil ?_)))
      show Gives _ (.tuple []) _
      exact gives_out (hfr _ rfl) (VW.refl _) (hQ _ _ _ h)
    refine rZ ?_
    refine wZ rg (o_loadB1 (atX hne3 hdx 1 rfl) sz4 ag4 rfl rfl (v := .bool u7) rfl (mvZ (.bool u7) rfl ?_))
    refine Wl.guard rfl rfl (fun hb2 => ?_) (fun hb2 => ?_)
    · replace h := h.1 hb2
      refine mvZ (.int .i64 r) rfl ?_
      refine Wl.guardT rfl rfl hb2 ?_
      refine wZ rg (o_subG rfl rfl h.1 ?_)
      replace h := h.2
      refine Wl.guardT rfl rfl hb2 ?_
      refine wZ rg (o_loadB1 (atX hne4 hdx 2 rfl) sz3 ag3 rfl rfl (v := .int .i64 u8) rfl ?_)
      refine Wl.guardT rfl rfl hb2 ?_
      refine wZ rg (o_eql rfl rfl (wZ rg (o_pickT rfl hb2 (v := .bool ((r - 2) == u8)) rfl (wZ rg (o_storeB (atX hne3 hdx 1 rfl) sz4 (by decide) rfl (w := .bool ((r - 2) == u8)) rfl rfl rfl (v := .bool ((r - 2) == u8)) rfl (setX hne3 hdx 1 rfl rfl) (nZ ?_))))))
      exact ⟨((r - 2) == u8), (canon (fc vr (fn)) (sn)), h⟩
    replace h := h.2 hb2
    refine Wl.guardF rfl rfl hb2 rfl ?_
    refine Wl.guardF rfl rfl hb2 rfl ?_
    refine Wl.guardF rfl rfl hb2 rfl ?_
    refine wZ rg (o_pickF rfl hb2 (v := .bool false) rfl (wZ rg (o_storeB (atX hne3 hdx 1 rfl) sz4 (by decide) rfl (w := .bool false) rfl rfl rfl (v := .bool false) rfl (setX hne3 hdx 1 rfl rfl) (nZ ?_))))
    exact ⟨false, (canon (fc vr (fn)) (sn)), h⟩
  replace h := h.1 hb
  refine Wl.guardF rfl rfl hb rfl ?_
  refine Wl.guardF rfl rfl hb rfl ?_
  refine Wl.guardF rfl rfl hb rfl ?_
  refine Wl.guardF rfl rfl hb rfl ?_
  refine wZ rg (o_pickT rfl hb (v := .bool true) rfl (nZ ?_))
  refine Vc.cond' rfl (fun _ => ?_) (fun hb => Bool.noConfusion hb)
  refine Vc.ret' ?_
  refine res_nil ?_
  show Gives _ (.tuple []) _
  exact gives_out (hfr _ rfl) (VW.refl _) (hQ _ _ _ h)
theorem diagram_numbered_ctr {d : GDiagram} {Q : Bool → Prop} {S : St} {R : AV → St → Prop} (h : diagram_numbered_W d Q) (hQ : ∀ r1, Q r1 → R (AV.bool r1) S) :
    Ctr Try.prog 141 [eDiagram d] S R := by
  unfold diagram_numbered_W at h
  refine enterT Try.func141 rfl Try.ntmps141 Try.results141 (by kernel_rfl) (fun rg hrg => ?_)
  refine qZ (rZ (wZ rg (o_box (v := eDiagram d) rfl rfl (kk := 3) rfl (by decide) (fun g1 => (asZ (.bool false) rfl (nZ (qZ (rZ (wZ rg (o_alloc zav3 ok3 (kk := 1) rfl (fun g2 => (wZ rg (o_alloc zav4 ok4 (kk := 1) rfl (fun g3 => (wZ rg (o_storeB (atL (k := 3) rfl) sz3 (by decide) rfl (w := .int .i64 0) rfl rfl rfl (v := .int .i64 0) rfl setL ?_))))))))))))))))
  refine wZ rg (o_storeB (atL (k := 4) rfl) sz4 (by decide) rfl (w := .bool true) rfl rfl rfl (v := .bool true) rfl setL (nZ (qZ (rZ (wZ rg (o_faP td25 rfl rfl (by rw [sz23]; decide) rfl (wZ rg (o_loadB1 (atL (k := 1) rfl) sz23 ag23 rfl rfl (v := eL eDNode d.Nodes) rfl (wZ rg (o_len td23 rfl (wZ rg (o_make td139 bts4 ok4 (enc := AV.bool) (z' := false) zav4 (kk := 1) rfl rfl rfl h.1 (fun g4 => ?_)))))))))))))
  replace h := h.2
  refine wZ rg (o_alloc zav139 ok139 (kk := 1) rfl (fun g5 => (wZ rg (o_storeB (atL (k := 5) rfl) sz139 (by decide) rfl (w := .sl 1 rg 10 g4 0 (Int.toNat (d.Nodes.length : Int))) rfl rfl rfl (v := .sl 1 rg 10 g4 0 (Int.toNat (d.Nodes.length : Int))) rfl setL (nZ (qZ (rZ (wZ rg (o_alloc zav200 ok200 (kk := 1) rfl (fun g6 => (nZ (qZ (rZ ?_)))))))))))))
  refine wZ rg (o_func (vs := []) (us := [.ptr rg 5 g5 0 0, .ptr rg 6 g6 0 0, .ptr rg 1 g1 0 0, .ptr rg 4 g3 0 0, .ptr rg 3 g2 0 0]) rfl rfl ?_)
  refine wZ rg (o_storeB (atL (k := 6) rfl) sz200 (by decide) rfl (w := .fn (.func 193) [] [.ptr rg 5 g5 0 0, .ptr rg 6 g6 0 0, .ptr rg 1 g1 0 0, .ptr rg 4 g3 0 0, .ptr rg 3 g2 0 0]) rfl rfl rfl (v := .fn (.func 193) [] [.ptr rg 5 g5 0 0, .ptr rg 6 g6 0 0, .ptr rg 1 g1 0 0, .ptr rg 4 g3 0 0, .ptr rg 3 g2 0 0]) rfl setL (nZ (qZ (rZ ?_))))
  refine wZ rg (o_loadB1 (atL (k := 6) rfl) sz200 ag200 rfl rfl (v := .fn (.func 193) [] [.ptr rg 5 g5 0 0, .ptr rg 6 g6 0 0, .ptr rg 1 g1 0 0, .ptr rg 4 g3 0 0, .ptr rg 3 g2 0 0]) rfl (wZ rg (o_faP td25 rfl rfl (by rw [sz3]; decide) rfl (wZ rg (o_loadB1 (atL (k := 1) rfl) sz3 ag3 rfl rfl (v := .int .i64 d.Root) rfl ?_)))))
  refine Wl.wk (EWk.ow (k := 5) (o' := .arr 1 [.sl 1 rg 10 g4 0 ((rep' (d.Nodes.length : Int) false).length)]) rfl (OW.one (VWL.vwc (vl' (VW.slen (by first | rfl | omega | (simp only [go_sem] <;> omega))) (vn))))) ?_
  obtain ⟨_, h⟩ := h
  refine wZ rg (o_call (us := [AV.int .i64 d.Root, .ptr rg 5 g5 0 0, .ptr rg 6 g6 0 0, .ptr rg 1 g1 0 0, .ptr rg 4 g3 0 0, .ptr rg 3 g2 0 0]) rfl (vl' vr (vl' vr (vl' vr (vl' vr (vl' vr (vl' vr (vn))))))) (ctrX (sx_c (atL (k := 5) rfl) (sx_c (atL (k := 4) rfl) (sx_c (atL (k := 3) rfl) (sx_c (atL (k := 10) rfl) (sx_c (atL (k := 6) rfl) (sx_c (atL (k := 1) rfl) (sx_n))))))) (diagram_numbered_1__e_ctr (dk_c (ni_c (ni_o rfl) (ni_c (ni_o rfl) (ni_c (ni_o rfl) (ni_c (ni_o rfl) (ni_c (ni_o rfl) (ni_n)))))) (dk_c (ni_c (ni_o rfl) (ni_c (ni_o rfl) (ni_c (ni_o rfl) (ni_c (ni_o rfl) (ni_n))))) (dk_c (ni_c (ni_o rfl) (ni_c (ni_o rfl) (ni_c (ni_o rfl) (ni_n)))) (dk_c (ni_c (ni_o rfl) (ni_c (ni_o rfl) (ni_n))) (dk_c (ni_c (ni_o rfl) (ni_n)) (dk_c (ni_n) (dk_n))))))) h fun ok next1 u h => ?_)))
  refine Wl.eqS (sy_c (sy_c (sy_c (sy_c (sx_c (atL (k := 6) rfl) (sx_c (atL (k := 1) rfl) (sx_n))) setL) setL) setL) setL) ?_
  have hl := h.1
  replace h := h.2
  refine nZ (qZ (rZ (wZ rg (o_loadB1 (atL (k := 4) rfl) sz4 ag4 rfl rfl (v := .bool ok) rfl (mvZ (.bool ok) rfl ?_)))))
  refine Wl.guard rfl rfl (fun hb => ?_) (fun hb => ?_)
  · replace h := h.1 hb
    refine wZ rg (o_loadB1 (atL (k := 3) rfl) sz3 ag3 rfl rfl (v := .int .i64 next1) rfl ?_)
    refine Wl.guardT rfl rfl hb ?_
    refine wZ rg (o_faP td25 rfl rfl (by rw [sz23]; decide) rfl ?_)
    refine Wl.guardT rfl rfl hb ?_
    refine wZ rg (o_loadB1 (atL (k := 1) rfl) sz23 ag23 rfl rfl (v := eL eDNode d.Nodes) rfl ?_)
    refine Wl.guardT rfl rfl hb ?_
    refine wZ rg (o_len td23 rfl ?_)
    refine Wl.guardT rfl rfl hb ?_
    refine wZ rg (o_eql rfl rfl (wZ rg (o_pickT rfl hb (v := .bool (next1 == (d.Nodes.length : Int))) rfl (asZ (.bool (next1 == (d.Nodes.length : Int))) rfl (nZ ?_)))))
    refine Vc.ret' ?_
    refine res_tmp (v := .bool (next1 == (d.Nodes.length : Int))) rfl (res_nil ?_)
    show Gives _ (.bool (next1 == (d.Nodes.length : Int))) _
    exact gives_out hrg (VW.refl _) (hQ _ h)
  replace h := h.2 hb
  refine Wl.guardF rfl rfl hb rfl ?_
  refine Wl.guardF rfl rfl hb rfl ?_
  refine Wl.guardF rfl rfl hb rfl ?_
  refine Wl.guardF rfl rfl hb rfl ?_
  refine wZ rg (o_pickF rfl hb (v := .bool false) rfl (asZ (.bool false) rfl (nZ ?_)))
  refine Vc.ret' ?_
  refine res_tmp (v := .bool false) rfl (res_nil ?_)
  show Gives _ (.bool false) _
  exact gives_out hrg (VW.refl _) (hQ _ h)
theorem diagram_Check_ctr {d : GDiagram} {Q : Option Int → Prop} {S : St} {R : AV → St → Prop} (h : diagram_Check_W d Q) (hQ : ∀ r1, Q r1 → R (eErr 83 r1) S) :
    Ctr Try.prog 66 [eDiagram d] S R := by
  unfold diagram_Check_W at h
  refine enterT Try.func66 rfl Try.ntmps66 Try.results66 (by kernel_rfl) (fun rg hrg => ?_)
  refine qZ (rZ (wZ rg (o_box (v := eDiagram d) rfl rfl (kk := 3) rfl (by decide) (fun g1 => (asZ .niface rfl (nZ (qZ (rZ (wZ rg (o_faP td25 rfl rfl (by rw [sz22]; decide) rfl (wZ rg (o_loadB1 (atL (k := 1) rfl) sz22 ag22 rfl rfl (v := eL (AV.int .i64) d.Order) rfl (wZ rg (o_call (us := [eL (AV.int .i64) d.Order]) rfl (vl' vr (vn)) (order_Positions_ctr h fun r r1 h => ?_)))))))))))))))
  refine mvZ (.tuple [eL (AV.int .i64) r, eErr 83 r1]) rfl (wZ rg (o_extract (v := eL (AV.int .i64) r) rfl rfl rfl (wZ rg (o_extract (v := eErr 83 r1) rfl rfl rfl (asZ (eL (AV.int .i64) r) rfl (asZ (eErr 83 r1) rfl (nZ (qZ (qZ (rZ (mvZ (eErr 83 r1) rfl (wZ rg (o_isnon td29 (E := 83) rfl rfl rfl (nZ ?_))))))))))))))
  refine Vc.cond' rfl (fun hb => ?_) (fun hb => ?_)
  · replace h := h.1 hb
    refine qZ (rZ (mvZ (eErr 83 r1) rfl (asZ (eErr 83 r1) rfl (nZ ?_))))
    refine Vc.ret' ?_
    refine res_tmp (v := eErr 83 r1) rfl (res_nil ?_)
    show Gives _ (eErr 83 r1) _
    exact gives_out hrg (VW.refl _) (hQ _ h)
  replace h := h.2 hb
  refine Vc.skip' ?_
  refine qZ (qZ (rZ (wZ rg (o_faP td25 rfl rfl (by rw [sz23]; decide) rfl (wZ rg (o_loadB1 (atL (k := 1) rfl) sz23 ag23 rfl rfl (v := eL eDNode d.Nodes) rfl (wZ rg (o_len td23 rfl (wZ rg (o_gtr rfl rfl (nZ ?_)))))))))))
  refine Vc.cond' rfl (fun hb1 => ?_) (fun hb1 => ?_)
  · replace h := h.1 hb1
    refine qZ (rZ (wZ rg (o_iface (by rw [td83]; trivial) (v := .int .i64 4) rfl (asZ (.iface 83 (.int .i64 4)) rfl (nZ ?_)))))
    refine Vc.ret' ?_
    refine res_tmp (v := .iface 83 (.int .i64 4)) rfl (res_nil ?_)
    show Gives _ (.iface 83 (.int .i64 4)) _
    exact gives_out hrg (VW.refl _) (hQ _ h)
  replace h := h.2 hb1
  refine Vc.skip' ?_
  refine qZ (rZ (wZ rg (o_makeMap (enc := AV.bool) td148 ksh134 trivial (fun g2 => (asZ (.map rg 23 g2) rfl (nZ (qZ (qZ (rZ (wZ rg (o_faP td25 rfl rfl (by rw [sz23]; decide) rfl (wZ rg (o_loadB1 (atL (k := 1) rfl) sz23 ag23 rfl rfl (v := eL eDNode d.Nodes) rfl (wZ rg (o_len td23 rfl (mvZ (.int .i64 0) rfl (nZ ?_)))))))))))))))))
  refine Vc.blk ?_
  obtain ⟨I, μ, h0, hI⟩ := h
  refine Vc.loop' (σ := (Int × (GMap Bool))) (fun y => I y) (fun y => μ y) (fun y => envOf [(1, .ptr rg 1 g1 0 0), (3, eL (AV.int .i64) r), (5, .map rg 23 g2), (25, eL eDNode d.Nodes), (26, .int .i64 (d.Nodes.length : Int)), (27, .int .i64 y.1)]) (fun y => stL S rg [(1, .arr 3 [eDiagram d], g1), (23, mapE AV.bool (.many [.i64, .i64, .i64]) y.2, g2)]) (0, (mnew : GMap Bool)) (canon (fc vr (fc vr (fc vr (fc vr (fc vr (fc vr (fn))))))) (sc rfl (sc rfl (sn)))) h0 (fun y h => ?_)
  obtain ⟨x, x1⟩ := y
  replace h := hI (x, x1) h
  show Vc _ _ _ _ (envOf [(1, .ptr rg 1 g1 0 0), (3, eL (AV.int .i64) r), (5, .map rg 23 g2), (25, eL eDNode d.Nodes), (26, .int .i64 (d.Nodes.length : Int)), (27, .int .i64 x)]) (stL S rg [(1, .arr 3 [eDiagram d], g1), (23, mapE AV.bool (.many [.i64, .i64, .i64]) x1, g2)])
  refine qZ (rZ (wZ rg (o_lss rfl rfl (nZ (qZ ?_)))))
  refine Vc.cond' rfl (fun hb2 => ?_) (fun hb2 => ?_)
  · replace h := h.1 hb2
    refine Vc.skip' ?_
    refine qZ ?_
    refine Vc.blk ?_
    refine qZ (rZ (mvZ (.int .i64 x) rfl (wZ rg (o_idxL td23 sz134 (by decide) (fun _ => rfl) rfl rfl h.1 ?_))))
    replace h := h.2
    refine wZ rg (o_loadIA sz134 (by decide) ag134 rfl rfl (v := eDNode (at' d.Nodes x)) rfl (wZ rg (o_alloc zav134 ok134 (kk := 3) rfl (fun g3 => (asZ (.int .i64 x) rfl (wZ rg (o_storeB (atL (k := 7) rfl) sz134 (by decide) rfl (w := eDNode (at' d.Nodes x)) rfl rfl rfl (v := eDNode (at' d.Nodes x)) rfl setL (nZ (qZ (qZ (rZ ?_)))))))))))
    refine wZ rg (o_loadBA (atL (k := 1) rfl) sz25 (by decide) ag25 rfl rfl (v := eDiagram d) rfl (mvZ (eL (AV.int .i64) r) rfl (mvZ (.int .i64 x) rfl (wZ rg (o_call (us := [eDiagram d, eL (AV.int .i64) r, AV.int .i64 x]) rfl (vl' vr (vl' vr (vl' vr (vn)))) (diagram_checkNode_ctr h fun err h => (asZ (eErr 83 err) rfl (nZ (qZ (rZ (mvZ (eErr 83 err) rfl (wZ rg (o_isnon td29 (E := 83) rfl rfl rfl ?_)))))))))))))
    refine nZ ?_
    refine Vc.cond' rfl (fun hb3 => ?_) (fun hb3 => ?_)
    · replace h := h.1 hb3
      refine qZ (rZ (mvZ (eErr 83 err) rfl (asZ (eErr 83 err) rfl (nZ ?_))))
      refine Vc.ret' ?_
      refine res_tmp (v := eErr 83 err) rfl (res_nil ?_)
      show Gives _ (eErr 83 err) _
      exact gives_out hrg (VW.refl _) (hQ _ h)
    replace h := h.2 hb3
    refine Vc.skip' ?_
    refine qZ (qZ (rZ (mvZ (.map rg 23 g2) rfl (wZ rg (o_loadBA (atL (k := 7) rfl) sz134 (by decide) ag134 rfl rfl (v := eDNode (at' d.Nodes x)) rfl (wZ rg (o_lookup1 (atL (k := 23) rfl) td148 ksh134 ok4 (z := false) zav4 rfl rfl (nZ ?_))))))))
    refine Vc.cond' rfl (fun hb4 => ?_) (fun hb4 => ?_)
    · replace h := h.1 hb4
      refine qZ (rZ (wZ rg (o_iface (by rw [td83]; trivial) (v := .int .i64 6) rfl (asZ (.iface 83 (.int .i64 6)) rfl (nZ ?_)))))
      refine Vc.ret' ?_
      refine res_tmp (v := .iface 83 (.int .i64 6)) rfl (res_nil ?_)
      show Gives _ (.iface 83 (.int .i64 6)) _
      exact gives_out hrg (VW.refl _) (hQ _ h)
    replace h := h.2 hb4
    refine Vc.skip' ?_
    refine rZ ?_
    refine mvZ (.map rg 23 g2) rfl (wZ rg (o_loadBA (atL (k := 7) rfl) sz134 (by decide) ag134 rfl rfl (v := eDNode (at' d.Nodes x)) rfl (wZ rg (o_mapUpd (v := true) (atL (k := 23) rfl) td148 ksh134 rfl rfl rfl setL (nZ (rZ (wZ rg (o_addG rfl rfl h.1 ?_))))))))
    replace h := h.2
    refine mvZ (.int .i64 (x + 1)) rfl (nZ ?_)
    exact ⟨((x + 1), (mput x1 [(at' d.Nodes x).Var, (at' d.Nodes x).Lo, (at' d.Nodes x).Hi] true)), (canon (fc vr (fc vr (fc vr (fc vr (fc vr (fc vr (fn))))))) (sc rfl (sc rfl (sn)))), h⟩
  replace h := h.2 hb2
  refine Vc.exit' (exB_self ?_)
  refine qZ ?_
  refine Vc.blk ?_
  obtain ⟨J, h, hJ⟩ := h
  refine Vc.join' (σ := ((Bool) × (Nat))) (fun y => J y.1) (fun y => envOf [(1, .ptr rg 1 y.2 0 0), (46, .bool y.1)]) (fun y => stL S rg [(1, .arr 3 [eDiagram d], y.2)]) (fun y h => ?_) ?_
  · obtain ⟨x2, g4⟩ := y
    replace h := hJ x2 h
    show Vc _ _ _ _ (envOf [(1, .ptr rg 1 g4 0 0), (46, .bool x2)]) (stL S rg [(1, .arr 3 [eDiagram d], g4)])
    refine Vc.cond' rfl (fun hb5 => ?_) (fun hb5 => ?_)
    · replace h := h.1 hb5
      refine qZ (rZ (wZ rg (o_iface (by rw [td83]; trivial) (v := .int .i64 10) rfl (asZ (.iface 83 (.int .i64 10)) rfl (nZ ?_)))))
      refine Vc.ret' ?_
      refine res_tmp (v := .iface 83 (.int .i64 10)) rfl (res_nil ?_)
      show Gives _ (.iface 83 (.int .i64 10)) _
      exact gives_out hrg (VW.refl _) (hQ _ h)
    replace h := h.2 hb5
    refine qZ (rZ (wZ rg (o_loadBA (atL (k := 1) rfl) sz25 (by decide) ag25 rfl rfl (v := eDiagram d) rfl (wZ rg (o_call (us := [eDiagram d]) rfl (vl' vr (vn)) (diagram_numbered_ctr h fun r2 h => (wZ rg (o_not rfl (asZ (.bool (!r2)) rfl (nZ ?_))))))))))
    refine Vc.cond' rfl (fun hb6 => ?_) (fun hb6 => ?_)
    · replace h := h.1 hb6
      refine qZ (rZ (wZ rg (o_iface (by rw [td83]; trivial) (v := .int .i64 2) rfl (asZ (.iface 83 (.int .i64 2)) rfl (nZ ?_)))))
      refine Vc.ret' ?_
      refine res_tmp (v := .iface 83 (.int .i64 2)) rfl (res_nil ?_)
      show Gives _ (.iface 83 (.int .i64 2)) _
      exact gives_out hrg (VW.refl _) (hQ _ h)
    replace h := h.2 hb6
    refine Vc.skip' ?_
    refine qZ (rZ (asZ .niface rfl (nZ ?_)))
    refine Vc.ret' ?_
    refine res_tmp (v := .niface) rfl (res_nil ?_)
    show Gives _ .niface _
    exact gives_out hrg (VW.refl _) (hQ _ h)
  refine rZ ?_
  refine wZ rg (o_faP td25 rfl rfl (by rw [sz3]; decide) rfl (wZ rg (o_loadB1 (atL (k := 1) rfl) sz3 ag3 rfl rfl (v := .int .i64 d.Root) rfl (wZ rg (o_lss rfl rfl (mvZ (.bool (decide (d.Root < 0))) rfl ?_))))))
  refine Wl.guard rfl rfl (fun hb7 => ?_) (fun hb7 => ?_)
  · replace h := h.2 hb7
    refine wZ rg (o_faP td25 rfl rfl (by rw [sz3]; decide) rfl ?_)
    refine Wl.guardT rfl rfl hb7 ?_
    refine wZ rg (o_loadB1 (atL (k := 1) rfl) sz3 ag3 rfl rfl (v := .int .i64 d.Root) rfl ?_)
    refine Wl.guardT rfl rfl hb7 ?_
    refine wZ rg (o_faP td25 rfl rfl (by rw [sz23]; decide) rfl ?_)
    refine Wl.guardT rfl rfl hb7 ?_
    refine wZ rg (o_loadB1 (atL (k := 1) rfl) sz23 ag23 rfl rfl (v := eL eDNode d.Nodes) rfl ?_)
    refine Wl.guardT rfl rfl hb7 ?_
    refine wZ rg (o_len td23 rfl ?_)
    refine Wl.guardT rfl rfl hb7 ?_
    refine wZ rg (o_addG rfl rfl h.1 ?_)
    replace h := h.2
    refine Wl.guardT rfl rfl hb7 ?_
    refine wZ rg (o_gtr rfl rfl (wZ rg (o_pickF rfl hb7 (v := .bool (decide ((1 + (d.Nodes.length : Int)) < d.Root))) rfl (asZ (.bool (decide ((1 + (d.Nodes.length : Int)) < d.Root))) rfl (nZ ?_)))))
    exact ⟨((decide ((1 + (d.Nodes.length : Int)) < d.Root)), g1), (canon (fc vr (fc vr (fn))) (sc rfl (sn))), h⟩
  replace h := h.1 hb7
  refine Wl.guardF rfl rfl hb7 rfl ?_
  refine Wl.guardF rfl rfl hb7 rfl ?_
  refine Wl.guardF rfl rfl hb7 rfl ?_
  refine Wl.guardF rfl rfl hb7 rfl ?_
  refine Wl.guardF rfl rfl hb7 rfl ?_
  refine Wl.guardF rfl rfl hb7 rfl ?_
  refine wZ rg (o_pickT rfl hb7 (v := .bool true) rfl (asZ (.bool true) rfl (nZ ?_)))
  exact ⟨(true, g1), (canon (fc vr (fc vr (fn))) (sc rfl (sn))), h⟩
end Go.Proofs.Ytllegjdggcmgaaa
/- Walks of functions. Conditions: none. -/
namespace Go.Proofs.Ytllegjdggcmgaaa
open Go.Gg
set_option maxRecDepth 100000
theorem slices_Equal___int_int_ctr {s1 : List Int} {s2 : List Int} {Q : Bool → Prop} {S : St} {R : AV → St → Prop} (h : slices_Equal___int_int_W s1 s2 Q) (hQ : ∀ r1, Q r1 → R (AV.bool r1) S) :
    Ctr Try.prog 185 [eL (AV.int .i64) s1, eL (AV.int .i64) s2] S R := by
  unfold slices_Equal___int_int_W at h
  refine enterT Try.func185 rfl Try.ntmps185 Try.results185 (by kernel_rfl) (fun rg hrg => ?_)
  refine qZ (rZ (asZ (.bool false) rfl (nZ (qZ (qZ (rZ (mvZ (eL (AV.int .i64) s1) rfl (wZ rg (o_len td22 rfl (mvZ (eL (AV.int .i64) s2) rfl (wZ rg (o_len td22 rfl (wZ rg (o_neq rfl rfl (nZ ?_)))))))))))))))
  refine Vc.cond' rfl (fun hb => ?_) (fun hb => ?_)
  · replace h := h.1 hb
    refine qZ (rZ (asZ (.bool false) rfl (nZ ?_)))
    refine Vc.ret' ?_
    refine res_tmp (v := .bool false) rfl (res_nil ?_)
    show Gives _ (.bool false) _
    exact gives_out hrg (VW.refl _) (hQ _ h)
  replace h := h.2 hb
  refine Vc.skip' ?_
  refine qZ (qZ (rZ (mvZ (eL (AV.int .i64) s1) rfl (wZ rg (o_len td22 rfl (mvZ (.int .i64 0) rfl (nZ ?_)))))))
  refine Vc.blk ?_
  obtain ⟨I, μ, h0, hI⟩ := h
  refine Vc.loop' (σ := (Int)) (fun y => I y) (fun y => μ y) (fun y => envOf [(0, eL (AV.int .i64) s1), (1, eL (AV.int .i64) s2), (12, .int .i64 (s1.length : Int)), (13, .int .i64 y)]) (fun y => stL S rg []) 0 (canon (fc vr (fc vr (fc vr (fc vr (fn))))) (sn)) h0 (fun x h => ?_)
  replace h := hI x h
  show Vc _ _ _ _ (envOf [(0, eL (AV.int .i64) s1), (1, eL (AV.int .i64) s2), (12, .int .i64 (s1.length : Int)), (13, .int .i64 x)]) (stL S rg [])
  refine qZ (rZ (wZ rg (o_lss rfl rfl (nZ (qZ ?_)))))
  refine Vc.cond' rfl (fun hb1 => ?_) (fun hb1 => ?_)
  · replace h := h.1 hb1
    refine Vc.skip' ?_
    refine qZ ?_
    refine Vc.blk ?_
    refine qZ (rZ (mvZ (.int .i64 x) rfl (asZ (.int .i64 x) rfl (nZ (qZ ?_)))))
    have hg := h.1
    replace h := h.2
    have hg1 := h.1
    replace h := h.2
    refine Vc.drawn' mixed rg (fun _ => jcr2) (by kernel_rfl) ?_
    refine dP rfl rfl (o_move (v := eL (AV.int .i64) s1) rfl (dP rfl rfl (o_move (v := .int .i64 x) rfl (dP rfl rfl (o_idxL td22 sz3 (by decide) (fun _ => rfl) rfl rfl hg (dP rfl rfl (o_loadI1 sz3 ag3 rfl rfl (v := .int .i64 (at' s1 x)) rfl (dP rfl rfl (o_move (v := eL (AV.int .i64) s2) rfl (dP rfl rfl (o_move (v := .int .i64 x) rfl ?_)))))))))))
    refine dP rfl rfl (o_idxL td22 sz3 (by decide) (fun _ => rfl) rfl rfl hg1 (dP rfl rfl (o_loadI1 sz3 ag3 rfl rfl (v := .int .i64 (at' s2 x)) rfl (dP rfl rfl (o_neq rfl rfl (dN ?_))))))
    refine Vc.cond' rfl (fun hb2 => ?_) (fun hb2 => ?_)
    · replace h := h.1 hb2
      refine qZ (rZ (asZ (.bool false) rfl (nZ ?_)))
      refine Vc.ret' ?_
      refine res_tmp (v := .bool false) rfl (res_nil ?_)
      show Gives _ (.bool false) _
      exact gives_out hrg (VW.refl _) (hQ _ h)
    replace h := h.2 hb2
    refine Vc.skip' ?_
    refine rZ ?_
    refine wZ rg (o_addG rfl rfl h.1 ?_)
    replace h := h.2
    refine mvZ (.int .i64 (x + 1)) rfl (nZ ?_)
    exact ⟨(x + 1), (canon (fc vr (fc vr (fc vr (fc vr (fn))))) (sn)), h⟩
  replace h := h.2 hb1
  refine Vc.exit' (exB_self ?_)
  refine qZ (rZ (asZ (.bool true) rfl (nZ ?_)))
  refine Vc.ret' ?_
  refine res_tmp (v := .bool true) rfl (res_nil ?_)
  show Gives _ (.bool true) _
  exact gives_out hrg (VW.refl _) (hQ _ h)
theorem slices_Clone___int_int_ctr {s : List Int} {Q : List Int → Prop} {S : St} {R : AV → St → Prop} (h : slices_Clone___int_int_W s Q) (hQ : ∀ r1, Q r1 → R (eL (AV.int .i64) r1) S) :
    Ctr Try.prog 138 [eL (AV.int .i64) s] S R := by
  unfold slices_Clone___int_int_W at h
  refine enterT Try.func138 rfl Try.ntmps138 Try.results138 (by kernel_rfl) (fun rg hrg => ?_)
  refine qZ (rZ (asZ .nil rfl (nZ (qZ (qZ (rZ (mvZ (eL (AV.int .i64) s) rfl ?_)))))))
  refine Wl.isnil td22 rfl rfl (fun isnil hn => ?_)
  replace h := h isnil hn
  refine nZ ?_
  refine Vc.cond' rfl (fun hb => ?_) (fun hb => ?_)
  · replace h := h.1 hb
    refine qZ (rZ (asZ .nil rfl (nZ ?_)))
    refine Vc.ret' ?_
    refine res_tmp (v := .nil) rfl (res_nil ?_)
    show Gives _ .nil _
    exact gives_out hrg (VW.nilL) (hQ _ h)
  replace h := h.2 hb
  refine Vc.skip' ?_
  refine qZ (rZ (wZ rg (o_bslice td22 ok3 zav3 (es := []) rfl (kk := 1) rfl rfl rfl rfl rfl rfl (fun g1 => (mvZ (eL (AV.int .i64) s) rfl (wZ rg (o_appR td22 bts3 ok3 zav3 (es := []) (xs := s) (enc := AV.int .i64) (atL (k := 5) rfl) (by first | rfl | omega | (simp only [go_sem] <;> omega)) (rfl) (kk := 1) rfl rfl (fun _ => rfl) (fun _ => rfl) h.1 rfl (fun _ => setL) (fun g2 => ?_))))))))
  replace h := h.2
  refine asZ (.sl 1 rg 5 g2 0 (([] ++ s).length)) rfl (nZ ?_)
  refine Vc.ret' ?_
  refine res_tmp (v := .sl 1 rg 5 g2 0 (([] ++ s).length)) rfl (res_nil ?_)
  show Gives _ (.sl 1 rg 5 g2 0 (([] ++ s).length)) _
  refine gives_freeze (k := 5) (xs := List.map (AV.int .i64) ([] ++ s)) rfl (v' := eL (AV.int .i64) ([] ++ s)) (frz_full rfl) ?_
  exact gives_out hrg (VW.refl _) (hQ _ h)
end Go.Proofs.Ytllegjdggcmgaaa
