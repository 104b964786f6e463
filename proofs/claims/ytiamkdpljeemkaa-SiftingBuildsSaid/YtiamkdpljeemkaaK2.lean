/- Walks of functions. Conditions: none. -/
import Derived.Test.YtiamkdpljeemkaaWa
import Derived.Test.YtiamkdpljeemkaaGgTy
import Derived.Test.YtiamkdpljeemkaaGd
/- Walks of functions. Conditions: none. -/
namespace Go.Proofs.Ytiamkdpljeemkaa
open Go.Gg
set_option maxRecDepth 100000
theorem decision_New_ctr {order : List Int} (qr kr0 kr1 kr2 kr3 kr4 : Nat) {Q : List Int → List Int → GMap Int → GMap Int → Prop} {S : St} {R : AV → St → Prop} (h : decision_New_W order Q) (hQ : ∀ c1 c2 c3 c4 h0 h1 h2 h3 h4, Q c1 c2 c3 c4 → R (.ptr qr kr0 h0 0 0) (stX S [(qr, kr0, .arr 5 [.agg [.sl 1 qr kr1 h1 0 c1.length, .sl 1 qr kr2 h2 0 c2.length, .nil, .map qr kr3 h3, .map qr kr4 h4]], h0), (qr, kr1, .arr 1 (List.map (AV.int .i64) c1), h1), (qr, kr2, .arr 1 (List.map (AV.int .i64) c2), h2), (qr, kr3, mapE (AV.int .i64) (.many [.i64, .i64, .i64]) c3, h3), (qr, kr4, mapE (AV.int .i64) (.many [.i64, .i64, .i64]) c4, h4)])) :
    Ctr Try.prog 73 [eL (AV.int .i64) order] S R := by
  unfold decision_New_W at h
  refine enterT Try.func73 rfl Try.ntmps73 Try.results73 (by kernel_rfl) (fun rg hrg => ?_)
  refine qZ (rZ (asZ .nilp rfl (nZ (qZ ?_))))
  have hg := h.1
  replace h := h.2
  have hg1 := h.1
  replace h := h.2
  refine Vc.drawn' mixed rg (fun _ => jcr2) (by kernel_rfl) ?_
  refine dP rfl rfl (o_move (v := eL (AV.int .i64) order) rfl (dL (E := ([], [(rg, 7)])) rfl rfl (by simp) (cfn) (o_appN td25 bts3 ok3 zav3 (xs := order) (enc := AV.int .i64) (rfl) (kk := 1) rfl rfl (fun _ => rfl) (fun _ => rfl) hg rfl (fun g1 => (dP rfl rfl (o_move (v := eL (AV.int .i64) order) rfl (dP rfl rfl (o_len td25 rfl ?_))))))))
  refine dL (E := ([], [(rg, 10)])) rfl rfl (by simp) (cfa (by simp [apartE]) (cfn)) (o_make td25 bts3 ok3 (enc := AV.int .i64) (z' := 0) zav3 (kk := 1) rfl rfl rfl hg1 (fun g2 => (dL (E := ([], [(rg, 11)])) rfl rfl (by simp) (cfa (by simp [apartE]) (cfa (by simp [apartE]) (cfn))) (o_makeMap (enc := AV.int .i64) td150 ksh97 trivial (fun g3 => ?_)))))
  refine dL (E := ([], [(rg, 12)])) rfl rfl (by simp) (cfa (by simp [apartE]) (cfa (by simp [apartE]) (cfa (by simp [apartE]) (cfn)))) (o_makeMap (enc := AV.int .i64) td151 ksh193 trivial (fun g4 => ?_))
  refine dP rfl rfl (o_build td153 zav153 bok153 szs153 sz153 (ps := [(0, .sl 1 rg 7 g1 0 order.length), (1, .sl 1 rg 10 g2 0 (Int.toNat (order.length : Int))), (3, .map rg 11 g3), (4, .map rg 12 g4)]) rfl rfl (v := .agg [.sl 1 rg 7 g1 0 order.length, .sl 1 rg 10 g2 0 (Int.toNat (order.length : Int)), .nil, .map rg 11 g3, .map rg 12 g4]) rfl ?_)
  refine dL (E := ([], [(rg, 14)])) rfl rfl (by simp) (cfo (by kernel_rfl) (cfo (by kernel_rfl) (cfo (by kernel_rfl) (cfo (by kernel_rfl) (cfn))))) (o_box (v := .agg [.sl 1 rg 7 g1 0 order.length, .sl 1 rg 10 g2 0 (Int.toNat (order.length : Int)), .nil, .map rg 11 g3, .map rg 12 g4]) rfl rfl (kk := 5) rfl (by decide) (fun g5 => (dP rfl rfl (o_assign (v := .ptr rg 14 g5 0 0) rfl (dN (qZ (qZ (rZ ?_))))))))
  refine mvZ (eL (AV.int .i64) order) rfl (wZ rg (o_len td25 rfl (mvZ (.int .i64 0) rfl (nZ ?_))))
  refine Vc.blk ?_
  obtain ⟨I, μ, h0, hI⟩ := h
  refine Vc.loop' (σ := (Int × (List Int))) (fun y => I y) (fun y => μ y) (fun y => envOf [(3, .ptr rg 14 g5 0 0), (15, eL (AV.int .i64) order), (16, .int .i64 (order.length : Int)), (17, .int .i64 y.1)]) (fun y => stL S rg [(7, .arr 1 (List.map (AV.int .i64) order), g1), (10, .arr 1 (List.map (AV.int .i64) y.2), g2), (11, mapE (AV.int .i64) (.many [.i64, .i64, .i64]) (mnew : GMap Int), g3), (12, mapE (AV.int .i64) (.many [.i64, .i64, .i64]) (mnew : GMap Int), g4), (14, .arr 5 [.agg [.sl 1 rg 7 g1 0 order.length, .sl 1 rg 10 g2 0 y.2.length, .nil, .map rg 11 g3, .map rg 12 g4]], g5)]) (0, (rep' (order.length : Int) 0)) (EWk.trans (EWk.ow (k := 14) (o' := .arr 5 [.agg [.sl 1 rg 7 g1 0 order.length, .sl 1 rg 10 g2 0 ((rep' (order.length : Int) 0).length), .nil, .map rg 11 g3, .map rg 12 g4]]) rfl (OW.one (VWL.vwc (vl' vr (vl' (VW.slen (by first | rfl | omega | (simp only [go_sem] <;> omega))) (vl' vr (vl' vr (vl' vr (vn))))))))) (canon (fc vr (fc vr (fc vr (fc vr (fn))))) (sc rfl (sc rfl (sc rfl (sc rfl (sc rfl (sn)))))))) h0 (fun y h => ?_)
  obtain ⟨x, x1⟩ := y
  replace h := hI (x, x1) h
  show Vc _ _ _ _ (envOf [(3, .ptr rg 14 g5 0 0), (15, eL (AV.int .i64) order), (16, .int .i64 (order.length : Int)), (17, .int .i64 x)]) (stL S rg [(7, .arr 1 (List.map (AV.int .i64) order), g1), (10, .arr 1 (List.map (AV.int .i64) x1), g2), (11, mapE (AV.int .i64) (.many [.i64, .i64, .i64]) (mnew : GMap Int), g3), (12, mapE (AV.int .i64) (.many [.i64, .i64, .i64]) (mnew : GMap Int), g4), (14, .arr 5 [.agg [.sl 1 rg 7 g1 0 order.length, .sl 1 rg 10 g2 0 x1.length, .nil, .map rg 11 g3, .map rg 12 g4]], g5)])
  refine qZ (rZ (wZ rg (o_lss rfl rfl (nZ (qZ ?_)))))
  refine Vc.cond' rfl (fun hb => ?_) (fun hb => ?_)
  · replace h := h.1 hb
    refine Vc.skip' ?_
    refine qZ ?_
    refine Vc.blk ?_
    refine qZ (rZ (mvZ (.int .i64 x) rfl (wZ rg (o_idxL td25 sz3 (by decide) (fun _ => rfl) rfl rfl h.1 ?_))))
    replace h := h.2
    refine wZ rg (o_loadI1 sz3 ag3 rfl rfl (v := .int .i64 (at' order x)) rfl (asZ (.int .i64 x) rfl (asZ (.int .i64 (at' order x)) rfl (nZ (rZ (mvZ (.ptr rg 14 g5 0 0) rfl (wZ rg (o_nilP rfl (wZ rg (o_faP td153 rfl rfl (by rw [sz25]; decide) rfl (wZ rg (o_loadB1 (atL (k := 14) rfl) sz25 ag25 rfl rfl (v := .sl 1 rg 10 g2 0 x1.length) rfl (mvZ (.int .i64 (at' order x)) rfl (mvZ (.int .i64 x) rfl ?_))))))))))))))
    refine wZ rg (o_idxR0 td25 sz3 (by decide) rfl rfl h.1 ?_)
    have hi := h.1
    replace h := h.2
    refine wZ rg (o_storeR1 (atL (k := 10) rfl) sz3 (by decide) (x' := x) (fun _ => rfl) rfl rfl (lt_of hi (by first | rfl | omega | (simp only [go_sem] <;> omega))) rfl rfl setL (nZ (rZ (wZ rg (o_addG rfl rfl h.1 ?_)))))
    replace h := h.2
    refine mvZ (.int .i64 (x + 1)) rfl (nZ ?_)
    exact ⟨((x + 1), (set' x1 (at' order x) x)), (EWk.trans (EWk.ow (k := 14) (o' := .arr 5 [.agg [.sl 1 rg 7 g1 0 order.length, .sl 1 rg 10 g2 0 ((set' x1 (at' order x) x).length), .nil, .map rg 11 g3, .map rg 12 g4]]) rfl (OW.one (VWL.vwc (vl' vr (vl' (VW.slen (by first | rfl | omega | (simp only [go_sem] <;> omega))) (vl' vr (vl' vr (vl' vr (vn))))))))) (canon (fc vr (fc vr (fc vr (fc vr (fn))))) (sc rfl (sc rfl (sc rfl (sc rfl (sc rfl (sn)))))))), h⟩
  replace h := h.2 hb
  refine Vc.exit' (exB_self ?_)
  refine qZ (rZ (mvZ (.ptr rg 14 g5 0 0) rfl (asZ (.ptr rg 14 g5 0 0) rfl (nZ ?_))))
  refine Vc.ret' ?_
  refine res_tmp (v := .ptr rg 14 g5 0 0) rfl (res_nil ?_)
  show Gives _ (.ptr rg 14 g5 0 0) _
  exact gives_objs qr hrg [(14, g5, .arr 5 [.agg [.sl 1 rg 7 g1 0 order.length, .sl 1 rg 10 g2 0 x1.length, .nil, .map rg 11 g3, .map rg 12 g4]], kr0), (7, g1, .arr 1 (List.map (AV.int .i64) order), kr1), (10, g2, .arr 1 (List.map (AV.int .i64) x1), kr2), (11, g3, mapE (AV.int .i64) (.many [.i64, .i64, .i64]) (mnew : GMap Int), kr3), (12, g4, mapE (AV.int .i64) (.many [.i64, .i64, .i64]) (mnew : GMap Int), kr4)] ⟨rfl, rfl, rfl, rfl, rfl, rfl, rfl, rfl, rfl, rfl, trivial⟩ (fun γ => .ptr qr kr0 (γ 0) 0 0) (fun γ => [(qr, kr0, .arr 5 [.agg [.sl 1 qr kr1 (γ 1) 0 order.length, .sl 1 qr kr2 (γ 2) 0 x1.length, .nil, .map qr kr3 (γ 3), .map qr kr4 (γ 4)]], γ 0), (qr, kr1, .arr 1 (List.map (AV.int .i64) order), γ 1), (qr, kr2, .arr 1 (List.map (AV.int .i64) x1), γ 2), (qr, kr3, mapE (AV.int .i64) (.many [.i64, .i64, .i64]) (mnew : GMap Int), γ 3), (qr, kr4, mapE (AV.int .i64) (.many [.i64, .i64, .i64]) (mnew : GMap Int), γ 4)]) (fun γ => rx_c (ro_b (rl_c (rn_s 1 rfl) (rl_c (rn_s 2 rfl) (rl_c (rn_r) (rl_c (rn_m 3 rfl) (rl_c (rn_m 4 rfl) (rl_n))))))) (rx_c (ro_r) (rx_c (ro_r) (rx_c (ro_r) (rx_c (ro_r) (rx_n)))))) (fun γ => rn_p 0 rfl) (fun γ => hQ _ _ _ _ _ _ _ _ _ h)
theorem decision_Table__Make__e2_ctr {v : Int} {lo : Int} {hi : Int} {order : List Int} {place : List Int} {nodes : List GDNode} {unique : GMap Int} {memo : GMap Int} {q0 k0 g0 q1 k1 g1 q2 k2 g2 q3 k3 g3 q4 k4 g4 q5 k5 g5 : Nat} (hdk : DK [(q0, k0), (q3, k3), (q4, k4), (q1, k1), (q2, k2), (q5, k5)]) {Q : List GDNode → GMap Int → Int → Prop} {S : St} {R : AV → St → Prop} (h : decision_Table__Make__e2_W v lo hi order place nodes unique memo Q) (hQ : ∀ r1 r2 r3, ∀ h3, Q r1 r2 r3 → R (AV.int .i64 r3) (stX S [(q0, k0, .arr 5 [.agg [.sl 1 q1 k1 g1 0 order.length, .sl 1 q2 k2 g2 0 place.length, .sl 3 q3 k3 h3 0 r1.length, .map q4 k4 g4, .map q5 k5 g5]], g0), (q3, k3, .arr 3 (List.map eDNode r1), h3), (q4, k4, mapE (AV.int .i64) (.many [.i64, .i64, .i64]) r2, g4), (q1, k1, .arr 1 (List.map (AV.int .i64) order), g1), (q2, k2, .arr 1 (List.map (AV.int .i64) place), g2), (q5, k5, mapE (AV.int .i64) (.many [.i64, .i64, .i64]) memo, g5)])) :
    Ctr Try.prog 117 [.ptr q0 k0 g0 0 0, AV.int .i64 v, AV.int .i64 lo, AV.int .i64 hi] (stX S [(q0, k0, .arr 5 [.agg [.sl 1 q1 k1 g1 0 order.length, .sl 1 q2 k2 g2 0 place.length, .sl 3 q3 k3 g3 0 nodes.length, .map q4 k4 g4, .map q5 k5 g5]], g0), (q3, k3, .arr 3 (List.map eDNode nodes), g3), (q4, k4, mapE (AV.int .i64) (.many [.i64, .i64, .i64]) unique, g4), (q1, k1, .arr 1 (List.map (AV.int .i64) order), g1), (q2, k2, .arr 1 (List.map (AV.int .i64) place), g2), (q5, k5, mapE (AV.int .i64) (.many [.i64, .i64, .i64]) memo, g5)]) R := by
  unfold decision_Table__Make__e2_W at h
  refine enterT Try.func117 rfl Try.ntmps117 Try.results117 (by kernel_rfl) (fun rg hrg => ?_)
  have hdx : DX [(q0, k0, .arr 5 [.agg [.sl 1 q1 k1 g1 0 order.length, .sl 1 q2 k2 g2 0 place.length, .sl 3 q3 k3 g3 0 nodes.length, .map q4 k4 g4, .map q5 k5 g5]], g0), (q3, k3, .arr 3 (List.map eDNode nodes), g3), (q4, k4, mapE (AV.int .i64) (.many [.i64, .i64, .i64]) unique, g4), (q1, k1, .arr 1 (List.map (AV.int .i64) order), g1), (q2, k2, .arr 1 (List.map (AV.int .i64) place), g2), (q5, k5, mapE (AV.int .i64) (.many [.i64, .i64, .i64]) memo, g5)] := hdk
  have hfr := fun X' e => fresh_set (S := S) (rg := rg) (X := [(q0, k0, .arr 5 [.agg [.sl 1 q1 k1 g1 0 order.length, .sl 1 q2 k2 g2 0 place.length, .sl 3 q3 k3 g3 0 nodes.length, .map q4 k4 g4, .map q5 k5 g5]], g0), (q3, k3, .arr 3 (List.map eDNode nodes), g3), (q4, k4, mapE (AV.int .i64) (.many [.i64, .i64, .i64]) unique, g4), (q1, k1, .arr 1 (List.map (AV.int .i64) order), g1), (q2, k2, .arr 1 (List.map (AV.int .i64) place), g2), (q5, k5, mapE (AV.int .i64) (.many [.i64, .i64, .i64]) memo, g5)]) (X' := X') e hrg
  have hne0 := fresh_ne hdx hrg 0 rfl
  have hne3 := fresh_ne hdx hrg 1 rfl
  have hne4 := fresh_ne hdx hrg 2 rfl
  have hne1 := fresh_ne hdx hrg 3 rfl
  have hne2 := fresh_ne hdx hrg 4 rfl
  have hne5 := fresh_ne hdx hrg 5 rfl
  refine qZ (rZ (asZ (.int .i64 0) rfl (nZ (qZ (qZ (rZ (mvZ (.int .i64 lo) rfl (mvZ (.int .i64 hi) rfl (wZ rg (o_eql rfl rfl (nZ ?_)))))))))))
  refine Vc.cond' rfl (fun hb => ?_) (fun hb => ?_)
  · replace h := h.1 hb
    refine qZ (rZ (mvZ (.int .i64 lo) rfl (asZ (.int .i64 lo) rfl (nZ ?_))))
    refine Vc.ret' ?_
    refine res_tmp (v := .int .i64 lo) rfl (res_nil ?_)
    show Gives _ (.int .i64 lo) _
    exact gives_out (hfr _ rfl) (VW.refl _) (hQ _ _ _ _ h)
  replace h := h.2 hb
  refine Vc.skip' ?_
  refine qZ (rZ (mvZ (.int .i64 v) rfl (mvZ (.int .i64 lo) rfl (mvZ (.int .i64 hi) rfl (wZ rg (o_build td97 zav97 bok97 szs97 sz97 (ps := [(0, .int .i64 v), (1, .int .i64 lo), (2, .int .i64 hi)]) rfl rfl (v := .agg [.int .i64 v, .int .i64 lo, .int .i64 hi]) rfl (wZ rg (o_alloc zav97 ok97 (kk := 3) rfl (fun g6 => ?_)))))))))
  refine wZ rg (o_storeB (atL (k := 9) rfl) sz97 (by decide) rfl (w := .agg [.int .i64 v, .int .i64 lo, .int .i64 hi]) rfl rfl rfl (v := .agg [.int .i64 v, .int .i64 lo, .int .i64 hi]) rfl setL (nZ (qZ ?_)))
  refine Vc.drawn' mixed rg (fun _ => jcr2) (by kernel_rfl) ?_
  refine dP rfl rfl (o_move (v := .ptr q0 k0 g0 0 0) rfl (dP rfl rfl (o_nilP rfl (dP rfl rfl (o_faP td153 rfl rfl (by rw [sz150]; decide) rfl (dL (E := ([(q0, k0)], [])) rfl rfl (by simp) (cfn) (o_loadB1 (atX hne0 hdx 0 rfl) sz150 ag150 rfl rfl (v := .map q4 k4 g4) rfl ?_)))))))
  refine dL (E := ([(rg, 9)], [])) rfl rfl (by simp) (cfa (by simp [apartE]) (cfn)) (o_loadBA (atL (k := 9) rfl) sz97 (by decide) ag97 rfl rfl (v := .agg [.int .i64 v, .int .i64 lo, .int .i64 hi]) rfl (dL (E := ([(q4, k4)], [])) rfl rfl (by simp) (cfo (by kernel_rfl) (cfo (by kernel_rfl) (cfn))) (o_lookup2 (atX hne4 hdx 2 rfl) td150 ksh97 ok3 (z := 0) zav3 rfl rfl ?_)))
  refine dP rfl rfl (o_move (v := .tuple [.int .i64 (Option.getD (mget unique [v, lo, hi]) 0), .bool (Option.isSome (mget unique [v, lo, hi]))]) rfl (dP rfl rfl (o_extract (v := .int .i64 (Option.getD (mget unique [v, lo, hi]) 0)) rfl rfl rfl (dP rfl rfl (o_extract (v := .bool (Option.isSome (mget unique [v, lo, hi]))) rfl rfl rfl ?_)))))
  refine dP rfl rfl (o_assign (v := .int .i64 (Option.getD (mget unique [v, lo, hi]) 0)) rfl (dP rfl rfl (o_assign (v := .bool (Option.isSome (mget unique [v, lo, hi]))) rfl (dN (qZ (qZ (rZ (mvZ (.bool (Option.isSome (mget unique [v, lo, hi]))) rfl (wZ rg (o_not rfl (nZ ?_)))))))))))
  refine Vc.cond' rfl (fun hb1 => ?_) (fun hb1 => ?_)
  · replace h := h.1 hb1
    refine qZ (rZ (mvZ (.ptr q0 k0 g0 0 0) rfl (wZ rg (o_nilP rfl (wZ rg (o_faP td153 rfl rfl (by rw [sz28]; decide) rfl (wZ rg (o_loadB1 (atX hne0 hdx 0 rfl) sz28 ag28 rfl rfl (v := .sl 3 q3 k3 g3 0 nodes.length) rfl (wZ rg (o_lenR td28 rfl (wZ rg (o_addG rfl rfl h.1 ?_))))))))))))
    replace h := h.2
    refine asZ (.int .i64 (2 + (nodes.length : Int))) rfl (nZ (qZ ?_))
    have hg := h.1
    replace h := h.2
    refine Vc.drawn' mixed rg (fun _ => jcr2) (by kernel_rfl) ?_
    refine dP rfl rfl (o_move (v := .ptr q0 k0 g0 0 0) rfl (dP rfl rfl (o_move (v := .ptr q0 k0 g0 0 0) rfl (dP rfl rfl (o_nilP rfl (dP rfl rfl (o_faP td153 rfl rfl (by rw [sz28]; decide) rfl (dL (E := ([(q0, k0)], [])) rfl rfl (by simp) (cfn) (o_loadB1 (atX hne0 hdx 0 rfl) sz28 ag28 rfl rfl (v := .sl 3 q3 k3 g3 0 nodes.length) rfl ?_)))))))))
    refine dL (E := ([(rg, 9)], [])) rfl rfl (by simp) (cfa (by simp [apartE]) (cfn)) (o_loadBA (atL (k := 9) rfl) sz97 (by decide) ag97 rfl rfl (v := .agg [.int .i64 v, .int .i64 lo, .int .i64 hi]) rfl ?_)
    refine dL (E := ([], [(rg, 43)])) rfl rfl (by simp) (cfo (by kernel_rfl) (cfa (by simp [apartE, Ne.symm hne0]) (cfn))) (o_bslice td28 ok97 zav97 (es := [.agg [.int .i64 v, .int .i64 lo, .int .i64 hi]]) rfl (kk := 3) rfl rfl rfl rfl rfl rfl (fun g7 => ?_))
    refine dL (E := ([(rg, 43)], [(q3, k3)])) rfl rfl (by simp) (cfo (by kernel_rfl) (cfo (by kernel_rfl) (cfo (by kernel_rfl) (cfn)))) (o_appR td28 bts97 ok97 zav97 (es := nodes) (xs := [(⟨v, lo, hi⟩ : GDNode)]) (enc := eDNode) (atX hne3 hdx 1 rfl) (by first | rfl | omega | (simp only [go_sem] <;> omega)) (view_rowE (atL (k := 43) rfl) (by first | rfl | omega | (simp only [go_sem] <;> omega))) (kk := 3) rfl rfl (fun _ => rfl) (fun _ => rfl) hg rfl (fun _ => (setX hne3 hdx 1 rfl rfl)) (fun g8 => ?_))
    refine dP rfl rfl (o_nilP rfl (dP rfl rfl (o_faP td153 rfl rfl (by rw [sz28]; decide) rfl ?_)))
    refine dL (E := ([], [(q0, k0)])) rfl rfl (by simp) (cfo (by kernel_rfl) (cfo (by kernel_rfl) (cfo (by kernel_rfl) (cfo (by kernel_rfl) (cfn))))) (o_storeB (atX hne0 hdx 0 rfl) sz28 (by decide) rfl (w := .sl 3 q3 k3 g8 0 ((nodes ++ [(⟨v, lo, hi⟩ : GDNode)]).length)) rfl rfl rfl (v := .agg [.sl 1 q1 k1 g1 0 order.length, .sl 1 q2 k2 g2 0 place.length, .sl 3 q3 k3 g8 0 ((nodes ++ [(⟨v, lo, hi⟩ : GDNode)]).length), .map q4 k4 g4, .map q5 k5 g5]) rfl (setX hne0 hdx 0 rfl rfl) ?_)
    refine dN ?_
    refine Vc.drawn' mixed rg (fun _ => jcr2) (by kernel_rfl) ?_
    refine dP rfl rfl (o_move (v := .ptr q0 k0 g0 0 0) rfl (dP rfl rfl (o_nilP rfl (dP rfl rfl (o_faP td153 rfl rfl (by rw [sz150]; decide) rfl (dL (E := ([(q0, k0)], [])) rfl rfl (by simp) (cfn) (o_loadB1 (atX hne0 hdx 0 rfl) sz150 ag150 rfl rfl (v := .map q4 k4 g4) rfl ?_)))))))
    refine dL (E := ([(rg, 9)], [])) rfl rfl (by simp) (cfa (by simp [apartE]) (cfn)) (o_loadBA (atL (k := 9) rfl) sz97 (by decide) ag97 rfl rfl (v := .agg [.int .i64 v, .int .i64 lo, .int .i64 hi]) rfl (dP rfl rfl (o_move (v := .int .i64 (2 + (nodes.length : Int))) rfl ?_)))
    refine dL (E := ([], [(q4, k4)])) rfl rfl (by simp) (cfo (by kernel_rfl) (cfo (by kernel_rfl) (cfn))) (o_mapUpd (v := (2 + (nodes.length : Int))) (atX hne4 hdx 2 rfl) td150 ksh97 rfl rfl rfl (setX hne4 hdx 2 rfl rfl) (dN (qZ (rZ (mvZ (.int .i64 (2 + (nodes.length : Int))) rfl (asZ (.int .i64 (2 + (nodes.length : Int))) rfl (nZ ?_)))))))
    refine Vc.ret' ?_
    refine res_tmp (v := .int .i64 (2 + (nodes.length : Int))) rfl (res_nil ?_)
    show Gives _ (.int .i64 (2 + (nodes.length : Int))) _
    exact gives_out (hfr _ rfl) (VW.refl _) (hQ _ _ _ _ h)
  replace h := h.2 hb1
  refine Vc.skip' ?_
  refine qZ (rZ (mvZ (.int .i64 (Option.getD (mget unique [v, lo, hi]) 0)) rfl (asZ (.int .i64 (Option.getD (mget unique [v, lo, hi]) 0)) rfl (nZ ?_))))
  refine Vc.ret' ?_
  refine res_tmp (v := .int .i64 (Option.getD (mget unique [v, lo, hi]) 0)) rfl (res_nil ?_)
  show Gives _ (.int .i64 (Option.getD (mget unique [v, lo, hi]) 0)) _
  exact gives_out (hfr _ rfl) (VW.refl _) (hQ _ _ _ _ h)
theorem decision_Table__Event__e2_ctr {i : Int} {order : List Int} {place : List Int} {nodes : List GDNode} {unique : GMap Int} {memo : GMap Int} {q0 k0 g0 q1 k1 g1 q2 k2 g2 q3 k3 g3 q4 k4 g4 q5 k5 g5 : Nat} (hdk : DK [(q0, k0), (q3, k3), (q4, k4), (q1, k1), (q2, k2), (q5, k5)]) {Q : List GDNode → GMap Int → Int → Prop} {S : St} {R : AV → St → Prop} (h : decision_Table__Event__e2_W i order place nodes unique memo Q) (hQ : ∀ r1 r2 r3, ∀ h3, Q r1 r2 r3 → R (AV.int .i64 r3) (stX S [(q0, k0, .arr 5 [.agg [.sl 1 q1 k1 g1 0 order.length, .sl 1 q2 k2 g2 0 place.length, .sl 3 q3 k3 h3 0 r1.length, .map q4 k4 g4, .map q5 k5 g5]], g0), (q3, k3, .arr 3 (List.map eDNode r1), h3), (q4, k4, mapE (AV.int .i64) (.many [.i64, .i64, .i64]) r2, g4), (q1, k1, .arr 1 (List.map (AV.int .i64) order), g1), (q2, k2, .arr 1 (List.map (AV.int .i64) place), g2), (q5, k5, mapE (AV.int .i64) (.many [.i64, .i64, .i64]) memo, g5)])) :
    Ctr Try.prog 74 [.ptr q0 k0 g0 0 0, AV.int .i64 i] (stX S [(q0, k0, .arr 5 [.agg [.sl 1 q1 k1 g1 0 order.length, .sl 1 q2 k2 g2 0 place.length, .sl 3 q3 k3 g3 0 nodes.length, .map q4 k4 g4, .map q5 k5 g5]], g0), (q3, k3, .arr 3 (List.map eDNode nodes), g3), (q4, k4, mapE (AV.int .i64) (.many [.i64, .i64, .i64]) unique, g4), (q1, k1, .arr 1 (List.map (AV.int .i64) order), g1), (q2, k2, .arr 1 (List.map (AV.int .i64) place), g2), (q5, k5, mapE (AV.int .i64) (.many [.i64, .i64, .i64]) memo, g5)]) R := by
  unfold decision_Table__Event__e2_W at h
  refine enterT Try.func74 rfl Try.ntmps74 Try.results74 (by kernel_rfl) (fun rg hrg => ?_)
  have hdx : DX [(q0, k0, .arr 5 [.agg [.sl 1 q1 k1 g1 0 order.length, .sl 1 q2 k2 g2 0 place.length, .sl 3 q3 k3 g3 0 nodes.length, .map q4 k4 g4, .map q5 k5 g5]], g0), (q3, k3, .arr 3 (List.map eDNode nodes), g3), (q4, k4, mapE (AV.int .i64) (.many [.i64, .i64, .i64]) unique, g4), (q1, k1, .arr 1 (List.map (AV.int .i64) order), g1), (q2, k2, .arr 1 (List.map (AV.int .i64) place), g2), (q5, k5, mapE (AV.int .i64) (.many [.i64, .i64, .i64]) memo, g5)] := hdk
  have hfr := fun X' e => fresh_set (S := S) (rg := rg) (X := [(q0, k0, .arr 5 [.agg [.sl 1 q1 k1 g1 0 order.length, .sl 1 q2 k2 g2 0 place.length, .sl 3 q3 k3 g3 0 nodes.length, .map q4 k4 g4, .map q5 k5 g5]], g0), (q3, k3, .arr 3 (List.map eDNode nodes), g3), (q4, k4, mapE (AV.int .i64) (.many [.i64, .i64, .i64]) unique, g4), (q1, k1, .arr 1 (List.map (AV.int .i64) order), g1), (q2, k2, .arr 1 (List.map (AV.int .i64) place), g2), (q5, k5, mapE (AV.int .i64) (.many [.i64, .i64, .i64]) memo, g5)]) (X' := X') e hrg
  have hne0 := fresh_ne hdx hrg 0 rfl
  have hne3 := fresh_ne hdx hrg 1 rfl
  have hne4 := fresh_ne hdx hrg 2 rfl
  have hne1 := fresh_ne hdx hrg 3 rfl
  have hne2 := fresh_ne hdx hrg 4 rfl
  have hne5 := fresh_ne hdx hrg 5 rfl
  refine qZ (rZ (asZ (.int .i64 0) rfl (nZ (qZ (rZ (mvZ (.ptr q0 k0 g0 0 0) rfl (mvZ (.int .i64 i) rfl ?_)))))))
  refine wZ rg (o_call (us := [.ptr q0 k0 g0 0 0, AV.int .i64 i, AV.int .i64 0, AV.int .i64 1]) rfl (vl' vr (vl' vr (vl' vr (vl' vr (vn))))) (ctrX (sx_c (atX hne0 hdx 0 rfl) (sx_c (atX hne3 hdx 1 rfl) (sx_c (atX hne4 hdx 2 rfl) (sx_c (atX hne1 hdx 3 rfl) (sx_c (atX hne2 hdx 4 rfl) (sx_c (atX hne5 hdx 5 rfl) (sx_n))))))) (decision_Table__Make__e2_ctr (dk_c (ni_c (dk_at 0 1 hdk rfl rfl rfl) (ni_c (dk_at 0 2 hdk rfl rfl rfl) (ni_c (dk_at 0 3 hdk rfl rfl rfl) (ni_c (dk_at 0 4 hdk rfl rfl rfl) (ni_c (dk_at 0 5 hdk rfl rfl rfl) (ni_n)))))) (dk_c (ni_c (dk_at 1 2 hdk rfl rfl rfl) (ni_c (dk_at 1 3 hdk rfl rfl rfl) (ni_c (dk_at 1 4 hdk rfl rfl rfl) (ni_c (dk_at 1 5 hdk rfl rfl rfl) (ni_n))))) (dk_c (ni_c (dk_at 2 3 hdk rfl rfl rfl) (ni_c (dk_at 2 4 hdk rfl rfl rfl) (ni_c (dk_at 2 5 hdk rfl rfl rfl) (ni_n)))) (dk_c (ni_c (dk_at 3 4 hdk rfl rfl rfl) (ni_c (dk_at 3 5 hdk rfl rfl rfl) (ni_n))) (dk_c (ni_c (dk_at 4 5 hdk rfl rfl rfl) (ni_n)) (dk_c (ni_n) (dk_n))))))) h fun u u1 r g6 h => ?_)))
  refine Wl.eqS (sy_c (sy_c (sy_c (sx_c (atX hne1 hdx 3 rfl) (sx_c (atX hne2 hdx 4 rfl) (sx_c (atX hne5 hdx 5 rfl) (sx_n)))) (setX hne4 hdx 2 rfl rfl)) (setX hne3 hdx 1 rfl rfl)) (setX hne0 hdx 0 rfl rfl)) ?_
  refine asZ (.int .i64 r) rfl (nZ ?_)
  refine Vc.ret' ?_
  refine res_tmp (v := .int .i64 r) rfl (res_nil ?_)
  show Gives _ (.int .i64 r) _
  exact gives_out (hfr _ rfl) (VW.refl _) (hQ _ _ _ _ h)
theorem decision_Table__level__e_ctr {r : Int} {order : List Int} {place : List Int} {nodes : List GDNode} {unique : GMap Int} {memo : GMap Int} {q0 k0 g0 q1 k1 g1 q2 k2 g2 q3 k3 g3 q4 k4 g4 q5 k5 g5 : Nat} (hdk : DK [(q0, k0), (q1, k1), (q2, k2), (q3, k3), (q4, k4), (q5, k5)]) {Q : Int → Prop} {S : St} {R : AV → St → Prop} (h : decision_Table__level__e_W r order place nodes unique memo Q) (hQ : ∀ r1, Q r1 → R (AV.int .i64 r1) (stX S [(q0, k0, .arr 5 [.agg [.sl 1 q1 k1 g1 0 order.length, .sl 1 q2 k2 g2 0 place.length, .sl 3 q3 k3 g3 0 nodes.length, .map q4 k4 g4, .map q5 k5 g5]], g0), (q1, k1, .arr 1 (List.map (AV.int .i64) order), g1), (q2, k2, .arr 1 (List.map (AV.int .i64) place), g2), (q3, k3, .arr 3 (List.map eDNode nodes), g3), (q4, k4, mapE (AV.int .i64) (.many [.i64, .i64, .i64]) unique, g4), (q5, k5, mapE (AV.int .i64) (.many [.i64, .i64, .i64]) memo, g5)])) :
    Ctr Try.prog 169 [.ptr q0 k0 g0 0 0, AV.int .i64 r] (stX S [(q0, k0, .arr 5 [.agg [.sl 1 q1 k1 g1 0 order.length, .sl 1 q2 k2 g2 0 place.length, .sl 3 q3 k3 g3 0 nodes.length, .map q4 k4 g4, .map q5 k5 g5]], g0), (q1, k1, .arr 1 (List.map (AV.int .i64) order), g1), (q2, k2, .arr 1 (List.map (AV.int .i64) place), g2), (q3, k3, .arr 3 (List.map eDNode nodes), g3), (q4, k4, mapE (AV.int .i64) (.many [.i64, .i64, .i64]) unique, g4), (q5, k5, mapE (AV.int .i64) (.many [.i64, .i64, .i64]) memo, g5)]) R := by
  unfold decision_Table__level__e_W at h
  refine enterT Try.func169 rfl Try.ntmps169 Try.results169 (by kernel_rfl) (fun rg hrg => ?_)
  have hdx : DX [(q0, k0, .arr 5 [.agg [.sl 1 q1 k1 g1 0 order.length, .sl 1 q2 k2 g2 0 place.length, .sl 3 q3 k3 g3 0 nodes.length, .map q4 k4 g4, .map q5 k5 g5]], g0), (q1, k1, .arr 1 (List.map (AV.int .i64) order), g1), (q2, k2, .arr 1 (List.map (AV.int .i64) place), g2), (q3, k3, .arr 3 (List.map eDNode nodes), g3), (q4, k4, mapE (AV.int .i64) (.many [.i64, .i64, .i64]) unique, g4), (q5, k5, mapE (AV.int .i64) (.many [.i64, .i64, .i64]) memo, g5)] := hdk
  have hfr := fun X' e => fresh_set (S := S) (rg := rg) (X := [(q0, k0, .arr 5 [.agg [.sl 1 q1 k1 g1 0 order.length, .sl 1 q2 k2 g2 0 place.length, .sl 3 q3 k3 g3 0 nodes.length, .map q4 k4 g4, .map q5 k5 g5]], g0), (q1, k1, .arr 1 (List.map (AV.int .i64) order), g1), (q2, k2, .arr 1 (List.map (AV.int .i64) place), g2), (q3, k3, .arr 3 (List.map eDNode nodes), g3), (q4, k4, mapE (AV.int .i64) (.many [.i64, .i64, .i64]) unique, g4), (q5, k5, mapE (AV.int .i64) (.many [.i64, .i64, .i64]) memo, g5)]) (X' := X') e hrg
  have hne0 := fresh_ne hdx hrg 0 rfl
  have hne1 := fresh_ne hdx hrg 1 rfl
  have hne2 := fresh_ne hdx hrg 2 rfl
  have hne3 := fresh_ne hdx hrg 3 rfl
  have hne4 := fresh_ne hdx hrg 4 rfl
  have hne5 := fresh_ne hdx hrg 5 rfl
  refine qZ (rZ (asZ (.int .i64 0) rfl (nZ (qZ (qZ (rZ (mvZ (.int .i64 r) rfl (wZ rg (o_lss rfl rfl (nZ ?_))))))))))
  refine Vc.cond' rfl (fun hb => ?_) (fun hb => ?_)
  · replace h := h.1 hb
    refine qZ (rZ (mvZ (.ptr q0 k0 g0 0 0) rfl (wZ rg (o_nilP rfl (wZ rg (o_faP td153 rfl rfl (by rw [sz25]; decide) rfl (wZ rg (o_loadB1 (atX hne0 hdx 0 rfl) sz25 ag25 rfl rfl (v := .sl 1 q1 k1 g1 0 order.length) rfl (wZ rg (o_lenR td25 rfl (asZ (.int .i64 (order.length : Int)) rfl (nZ ?_))))))))))))
    refine Vc.ret' ?_
    refine res_tmp (v := .int .i64 (order.length : Int)) rfl (res_nil ?_)
    show Gives _ (.int .i64 (order.length : Int)) _
    exact gives_out (hfr _ rfl) (VW.refl _) (hQ _ h)
  replace h := h.2 hb
  refine Vc.skip' ?_
  refine qZ ?_
  have hg := h.1
  replace h := h.2
  have hi := h.1
  replace h := h.2
  have hi1 := h.1
  replace h := h.2
  refine Vc.drawn' mixed rg (fun _ => jcr2) (by kernel_rfl) ?_
  refine dP rfl rfl (o_move (v := .ptr q0 k0 g0 0 0) rfl (dP rfl rfl (o_nilP rfl (dP rfl rfl (o_faP td153 rfl rfl (by rw [sz25]; decide) rfl (dL (E := ([(q0, k0)], [])) rfl rfl (by simp) (cfn) (o_loadB1 (atX hne0 hdx 0 rfl) sz25 ag25 rfl rfl (v := .sl 1 q2 k2 g2 0 place.length) rfl (dP rfl rfl (o_move (v := .ptr q0 k0 g0 0 0) rfl (dP rfl rfl (o_nilP rfl ?_)))))))))))
  refine dP rfl rfl (o_faP td153 rfl rfl (by rw [sz28]; decide) rfl (dL (E := ([(q0, k0)], [])) rfl rfl (by simp) (cfa (by simp [apartE]) (cfn)) (o_loadB1 (atX hne0 hdx 0 rfl) sz28 ag28 rfl rfl (v := .sl 3 q3 k3 g3 0 nodes.length) rfl (dP rfl rfl (o_move (v := .int .i64 r) rfl (dP rfl rfl (o_subG rfl rfl hg (dP rfl rfl (o_idxR0 td28 sz97 (by decide) rfl rfl hi ?_)))))))))
  refine dP rfl rfl (o_faP td97 rfl rfl (by rw [sz3]; decide) rfl (dL (E := ([(q3, k3)], [])) rfl rfl (by simp) (cfo (by kernel_rfl) (cfa (by simp [apartE]) (cfn))) (o_loadR1 (atX hne3 hdx 3 rfl) sz3 ag3 rfl (lt_of hi (by first | rfl | omega | (simp only [go_sem] <;> omega))) rfl (v := .int .i64 ((at' nodes (r - 2)).Var)) rfl (dP rfl rfl (o_idxR0 td25 sz3 (by decide) rfl rfl hi1 ?_)))))
  refine dL (E := ([(q2, k2)], [])) rfl rfl (by simp) (cfo (by kernel_rfl) (cfo (by kernel_rfl) (cfo (by kernel_rfl) (cfn)))) (o_loadR1 (atX hne2 hdx 2 rfl) sz3 ag3 rfl (lt_of hi1 (by first | rfl | omega | (simp only [go_sem] <;> omega))) rfl (v := .int .i64 (at' place ((at' nodes (r - 2)).Var))) rfl (dP rfl rfl (o_assign (v := .int .i64 (at' place ((at' nodes (r - 2)).Var))) rfl (dN ?_))))
  refine Vc.ret' ?_
  refine res_tmp (v := .int .i64 (at' place ((at' nodes (r - 2)).Var))) rfl (res_nil ?_)
  show Gives _ (.int .i64 (at' place ((at' nodes (r - 2)).Var))) _
  exact gives_out (hfr _ rfl) (VW.refl _) (hQ _ h)
theorem decision_Table__Kids__e_ctr {r : Int} {level : Int} {order : List Int} {place : List Int} {nodes : List GDNode} {unique : GMap Int} {memo : GMap Int} {q0 k0 g0 q1 k1 g1 q2 k2 g2 q3 k3 g3 q4 k4 g4 q5 k5 g5 : Nat} (hdk : DK [(q0, k0), (q1, k1), (q2, k2), (q3, k3), (q4, k4), (q5, k5)]) {Q : Int → Int → Prop} {S : St} {R : AV → St → Prop} (h : decision_Table__Kids__e_W r level order place nodes unique memo Q) (hQ : ∀ r1 r2, Q r1 r2 → R (.tuple [AV.int .i64 r1, AV.int .i64 r2]) (stX S [(q0, k0, .arr 5 [.agg [.sl 1 q1 k1 g1 0 order.length, .sl 1 q2 k2 g2 0 place.length, .sl 3 q3 k3 g3 0 nodes.length, .map q4 k4 g4, .map q5 k5 g5]], g0), (q1, k1, .arr 1 (List.map (AV.int .i64) order), g1), (q2, k2, .arr 1 (List.map (AV.int .i64) place), g2), (q3, k3, .arr 3 (List.map eDNode nodes), g3), (q4, k4, mapE (AV.int .i64) (.many [.i64, .i64, .i64]) unique, g4), (q5, k5, mapE (AV.int .i64) (.many [.i64, .i64, .i64]) memo, g5)])) :
    Ctr Try.prog 170 [.ptr q0 k0 g0 0 0, AV.int .i64 r, AV.int .i64 level] (stX S [(q0, k0, .arr 5 [.agg [.sl 1 q1 k1 g1 0 order.length, .sl 1 q2 k2 g2 0 place.length, .sl 3 q3 k3 g3 0 nodes.length, .map q4 k4 g4, .map q5 k5 g5]], g0), (q1, k1, .arr 1 (List.map (AV.int .i64) order), g1), (q2, k2, .arr 1 (List.map (AV.int .i64) place), g2), (q3, k3, .arr 3 (List.map eDNode nodes), g3), (q4, k4, mapE (AV.int .i64) (.many [.i64, .i64, .i64]) unique, g4), (q5, k5, mapE (AV.int .i64) (.many [.i64, .i64, .i64]) memo, g5)]) R := by
  unfold decision_Table__Kids__e_W at h
  refine enterT Try.func170 rfl Try.ntmps170 Try.results170 (by kernel_rfl) (fun rg hrg => ?_)
  have hdx : DX [(q0, k0, .arr 5 [.agg [.sl 1 q1 k1 g1 0 order.length, .sl 1 q2 k2 g2 0 place.length, .sl 3 q3 k3 g3 0 nodes.length, .map q4 k4 g4, .map q5 k5 g5]], g0), (q1, k1, .arr 1 (List.map (AV.int .i64) order), g1), (q2, k2, .arr 1 (List.map (AV.int .i64) place), g2), (q3, k3, .arr 3 (List.map eDNode nodes), g3), (q4, k4, mapE (AV.int .i64) (.many [.i64, .i64, .i64]) unique, g4), (q5, k5, mapE (AV.int .i64) (.many [.i64, .i64, .i64]) memo, g5)] := hdk
  have hfr := fun X' e => fresh_set (S := S) (rg := rg) (X := [(q0, k0, .arr 5 [.agg [.sl 1 q1 k1 g1 0 order.length, .sl 1 q2 k2 g2 0 place.length, .sl 3 q3 k3 g3 0 nodes.length, .map q4 k4 g4, .map q5 k5 g5]], g0), (q1, k1, .arr 1 (List.map (AV.int .i64) order), g1), (q2, k2, .arr 1 (List.map (AV.int .i64) place), g2), (q3, k3, .arr 3 (List.map eDNode nodes), g3), (q4, k4, mapE (AV.int .i64) (.many [.i64, .i64, .i64]) unique, g4), (q5, k5, mapE (AV.int .i64) (.many [.i64, .i64, .i64]) memo, g5)]) (X' := X') e hrg
  have hne0 := fresh_ne hdx hrg 0 rfl
  have hne1 := fresh_ne hdx hrg 1 rfl
  have hne2 := fresh_ne hdx hrg 2 rfl
  have hne3 := fresh_ne hdx hrg 3 rfl
  have hne4 := fresh_ne hdx hrg 4 rfl
  have hne5 := fresh_ne hdx hrg 5 rfl
  refine qZ (rZ (asZ (.int .i64 0) rfl (asZ (.int .i64 0) rfl (nZ (qZ (qZ (rZ (mvZ (.ptr q0 k0 g0 0 0) rfl (mvZ (.int .i64 r) rfl ?_)))))))))
  refine wZ rg (o_call (us := [.ptr q0 k0 g0 0 0, AV.int .i64 r]) rfl (vl' vr (vl' vr (vn))) (ctrX (sx_c (atX hne0 hdx 0 rfl) (sx_c (atX hne1 hdx 1 rfl) (sx_c (atX hne2 hdx 2 rfl) (sx_c (atX hne3 hdx 3 rfl) (sx_c (atX hne4 hdx 4 rfl) (sx_c (atX hne5 hdx 5 rfl) (sx_n))))))) (decision_Table__level__e_ctr (dk_c (ni_c (dk_at 0 1 hdk rfl rfl rfl) (ni_c (dk_at 0 2 hdk rfl rfl rfl) (ni_c (dk_at 0 3 hdk rfl rfl rfl) (ni_c (dk_at 0 4 hdk rfl rfl rfl) (ni_c (dk_at 0 5 hdk rfl rfl rfl) (ni_n)))))) (dk_c (ni_c (dk_at 1 2 hdk rfl rfl rfl) (ni_c (dk_at 1 3 hdk rfl rfl rfl) (ni_c (dk_at 1 4 hdk rfl rfl rfl) (ni_c (dk_at 1 5 hdk rfl rfl rfl) (ni_n))))) (dk_c (ni_c (dk_at 2 3 hdk rfl rfl rfl) (ni_c (dk_at 2 4 hdk rfl rfl rfl) (ni_c (dk_at 2 5 hdk rfl rfl rfl) (ni_n)))) (dk_c (ni_c (dk_at 3 4 hdk rfl rfl rfl) (ni_c (dk_at 3 5 hdk rfl rfl rfl) (ni_n))) (dk_c (ni_c (dk_at 4 5 hdk rfl rfl rfl) (ni_n)) (dk_c (ni_n) (dk_n))))))) h fun r1 h => ?_)))
  refine Wl.eqS (sx_c (atX hne0 hdx 0 rfl) (sx_c (atX hne1 hdx 1 rfl) (sx_c (atX hne2 hdx 2 rfl) (sx_c (atX hne3 hdx 3 rfl) (sx_c (atX hne4 hdx 4 rfl) (sx_c (atX hne5 hdx 5 rfl) (sx_n))))))) ?_
  refine mvZ (.int .i64 level) rfl (wZ rg (o_neq rfl rfl (nZ ?_)))
  refine Vc.cond' rfl (fun hb => ?_) (fun hb => ?_)
  · replace h := h.1 hb
    refine qZ (rZ (mvZ (.int .i64 r) rfl (mvZ (.int .i64 r) rfl (asZ (.int .i64 r) rfl (asZ (.int .i64 r) rfl (nZ ?_))))))
    refine Vc.ret' ?_
    refine res_tmp (v := .int .i64 r) rfl (res_tmp (v := .int .i64 r) rfl (res_nil ?_))
    show Gives _ (.tuple [.int .i64 r, .int .i64 r]) _
    exact gives_out (hfr _ rfl) (VW.tupL (vl' vr (vl' vr (vn)))) (hQ _ _ h)
  replace h := h.2 hb
  refine Vc.skip' ?_
  refine qZ (rZ (mvZ (.ptr q0 k0 g0 0 0) rfl (wZ rg (o_nilP rfl (wZ rg (o_faP td153 rfl rfl (by rw [sz28]; decide) rfl (wZ rg (o_loadB1 (atX hne0 hdx 0 rfl) sz28 ag28 rfl rfl (v := .sl 3 q3 k3 g3 0 nodes.length) rfl (mvZ (.int .i64 r) rfl (wZ rg (o_subG rfl rfl h.1 ?_)))))))))))
  replace h := h.2
  refine wZ rg (o_idxR0 td28 sz97 (by decide) rfl rfl h.1 ?_)
  have hi := h.1
  replace h := h.2
  refine wZ rg (o_loadRA (atX hne3 hdx 3 rfl) sz97 (by decide) ag97 rfl (lt_of hi (by first | rfl | omega | (simp only [go_sem] <;> omega))) rfl (v := eDNode (at' nodes (r - 2))) rfl (wZ rg (o_alloc zav97 ok97 (kk := 3) rfl (fun g6 => (wZ rg (o_storeB (atL (k := 8) rfl) sz97 (by decide) rfl (w := eDNode (at' nodes (r - 2))) rfl rfl rfl (v := eDNode (at' nodes (r - 2))) rfl setL (nZ (qZ ?_))))))))
  refine Vc.drawn' mixed rg (fun _ => jcr2) (by kernel_rfl) ?_
  refine dP rfl rfl (o_faP td97 rfl rfl (by rw [sz3]; decide) rfl (dL (E := ([(rg, 8)], [])) rfl rfl (by simp) (cfn) (o_loadB1 (atL (k := 8) rfl) sz3 ag3 rfl rfl (v := .int .i64 ((at' nodes (r - 2)).Lo)) rfl (dP rfl rfl (o_faP td97 rfl rfl (by rw [sz3]; decide) rfl ?_)))))
  refine dL (E := ([(rg, 8)], [])) rfl rfl (by simp) (cfa (by simp [apartE]) (cfn)) (o_loadB1 (atL (k := 8) rfl) sz3 ag3 rfl rfl (v := .int .i64 ((at' nodes (r - 2)).Hi)) rfl (dP rfl rfl (o_assign (v := .int .i64 ((at' nodes (r - 2)).Lo)) rfl (dP rfl rfl (o_assign (v := .int .i64 ((at' nodes (r - 2)).Hi)) rfl (dN ?_))))))
  refine Vc.ret' ?_
  refine res_tmp (v := .int .i64 ((at' nodes (r - 2)).Lo)) rfl (res_tmp (v := .int .i64 ((at' nodes (r - 2)).Hi)) rfl (res_nil ?_))
  show Gives _ (.tuple [.int .i64 ((at' nodes (r - 2)).Lo), .int .i64 ((at' nodes (r - 2)).Hi)]) _
  exact gives_out (hfr _ rfl) (VW.tupL (vl' vr (vl' vr (vn)))) (hQ _ _ h)
set_option maxHeartbeats 4000000 in
theorem decision_Table__Choose__e_ctr {fu : Nat} : ∀ {c : Int} {a : Int} {b : Int} {order : List Int} {place : List Int} {nodes : List GDNode} {unique : GMap Int} {memo : GMap Int} {q0 k0 g0 q1 k1 g1 q2 k2 g2 q3 k3 g3 q4 k4 g4 q5 k5 g5 : Nat} (_hdk : DK [(q0, k0), (q3, k3), (q4, k4), (q5, k5), (q1, k1), (q2, k2)]) {Q : List GDNode → GMap Int → GMap Int → Int → Prop} {S : St} {R : AV → St → Prop} (_h : decision_Table__Choose__e_W fu c a b order place nodes unique memo Q) (_hQ : ∀ r1 r2 r3 r4, ∀ h3, Q r1 r2 r3 r4 → R (AV.int .i64 r4) (stX S [(q0, k0, .arr 5 [.agg [.sl 1 q1 k1 g1 0 order.length, .sl 1 q2 k2 g2 0 place.length, .sl 3 q3 k3 h3 0 r1.length, .map q4 k4 g4, .map q5 k5 g5]], g0), (q3, k3, .arr 3 (List.map eDNode r1), h3), (q4, k4, mapE (AV.int .i64) (.many [.i64, .i64, .i64]) r2, g4), (q5, k5, mapE (AV.int .i64) (.many [.i64, .i64, .i64]) r3, g5), (q1, k1, .arr 1 (List.map (AV.int .i64) order), g1), (q2, k2, .arr 1 (List.map (AV.int .i64) place), g2)])),
    Ctr Try.prog 152 [.ptr q0 k0 g0 0 0, AV.int .i64 c, AV.int .i64 a, AV.int .i64 b] (stX S [(q0, k0, .arr 5 [.agg [.sl 1 q1 k1 g1 0 order.length, .sl 1 q2 k2 g2 0 place.length, .sl 3 q3 k3 g3 0 nodes.length, .map q4 k4 g4, .map q5 k5 g5]], g0), (q3, k3, .arr 3 (List.map eDNode nodes), g3), (q4, k4, mapE (AV.int .i64) (.many [.i64, .i64, .i64]) unique, g4), (q5, k5, mapE (AV.int .i64) (.many [.i64, .i64, .i64]) memo, g5), (q1, k1, .arr 1 (List.map (AV.int .i64) order), g1), (q2, k2, .arr 1 (List.map (AV.int .i64) place), g2)]) R := by
  induction fu with
  | zero =>
    intro c a b order place nodes unique memo q0 k0 g0 q1 k1 g1 q2 k2 g2 q3 k3 g3 q4 k4 g4 q5 k5 g5 hdk Q S R h hQ
    exact False.elim h
  | succ fu ih =>
  intro c a b order place nodes unique memo q0 k0 g0 q1 k1 g1 q2 k2 g2 q3 k3 g3 q4 k4 g4 q5 k5 g5 hdk Q S R h hQ
  rw [decision_Table__Choose__e_W] at h
  refine enterT Try.func152 rfl Try.ntmps152 Try.results152 (by kernel_rfl) (fun rg hrg => ?_)
  have hdx : DX [(q0, k0, .arr 5 [.agg [.sl 1 q1 k1 g1 0 order.length, .sl 1 q2 k2 g2 0 place.length, .sl 3 q3 k3 g3 0 nodes.length, .map q4 k4 g4, .map q5 k5 g5]], g0), (q3, k3, .arr 3 (List.map eDNode nodes), g3), (q4, k4, mapE (AV.int .i64) (.many [.i64, .i64, .i64]) unique, g4), (q5, k5, mapE (AV.int .i64) (.many [.i64, .i64, .i64]) memo, g5), (q1, k1, .arr 1 (List.map (AV.int .i64) order), g1), (q2, k2, .arr 1 (List.map (AV.int .i64) place), g2)] := hdk
  have hfr := fun X' e => fresh_set (S := S) (rg := rg) (X := [(q0, k0, .arr 5 [.agg [.sl 1 q1 k1 g1 0 order.length, .sl 1 q2 k2 g2 0 place.length, .sl 3 q3 k3 g3 0 nodes.length, .map q4 k4 g4, .map q5 k5 g5]], g0), (q3, k3, .arr 3 (List.map eDNode nodes), g3), (q4, k4, mapE (AV.int .i64) (.many [.i64, .i64, .i64]) unique, g4), (q5, k5, mapE (AV.int .i64) (.many [.i64, .i64, .i64]) memo, g5), (q1, k1, .arr 1 (List.map (AV.int .i64) order), g1), (q2, k2, .arr 1 (List.map (AV.int .i64) place), g2)]) (X' := X') e hrg
  have hne0 := fresh_ne hdx hrg 0 rfl
  have hne3 := fresh_ne hdx hrg 1 rfl
  have hne4 := fresh_ne hdx hrg 2 rfl
  have hne5 := fresh_ne hdx hrg 3 rfl
  have hne1 := fresh_ne hdx hrg 4 rfl
  have hne2 := fresh_ne hdx hrg 5 rfl
  refine qZ (rZ (asZ (.int .i64 0) rfl (nZ ?_)))
  obtain ⟨J, h, hJ⟩ := h
  refine Vc.join' (σ := (Unit)) (fun y => J y) (fun y => envOf [(0, .ptr q0 k0 g0 0 0), (1, .int .i64 c), (2, .int .i64 a), (3, .int .i64 b)]) (fun y => stL (stX S [(q0, k0, .arr 5 [.agg [.sl 1 q1 k1 g1 0 order.length, .sl 1 q2 k2 g2 0 place.length, .sl 3 q3 k3 g3 0 nodes.length, .map q4 k4 g4, .map q5 k5 g5]], g0), (q3, k3, .arr 3 (List.map eDNode nodes), g3), (q4, k4, mapE (AV.int .i64) (.many [.i64, .i64, .i64]) unique, g4), (q5, k5, mapE (AV.int .i64) (.many [.i64, .i64, .i64]) memo, g5), (q1, k1, .arr 1 (List.map (AV.int .i64) order), g1), (q2, k2, .arr 1 (List.map (AV.int .i64) place), g2)]) rg []) (fun _ h => ?_) ?_
  · replace h := hJ () h
    show Vc _ _ _ _ (envOf [(0, .ptr q0 k0 g0 0 0), (1, .int .i64 c), (2, .int .i64 a), (3, .int .i64 b)]) (stL (stX S [(q0, k0, .arr 5 [.agg [.sl 1 q1 k1 g1 0 order.length, .sl 1 q2 k2 g2 0 place.length, .sl 3 q3 k3 g3 0 nodes.length, .map q4 k4 g4, .map q5 k5 g5]], g0), (q3, k3, .arr 3 (List.map eDNode nodes), g3), (q4, k4, mapE (AV.int .i64) (.many [.i64, .i64, .i64]) unique, g4), (q5, k5, mapE (AV.int .i64) (.many [.i64, .i64, .i64]) memo, g5), (q1, k1, .arr 1 (List.map (AV.int .i64) order), g1), (q2, k2, .arr 1 (List.map (AV.int .i64) place), g2)]) rg [])
    refine qZ (rZ (mvZ (.int .i64 c) rfl (mvZ (.int .i64 a) rfl (mvZ (.int .i64 b) rfl (wZ rg (o_buildA td193 zav193 ok193 rfl sz3 (by decide) sz193 (ps := [(0, .int .i64 c), (1, .int .i64 a), (2, .int .i64 b)]) rfl rfl (v := .agg [.int .i64 c, .int .i64 a, .int .i64 b]) rfl (wZ rg (o_alloc zav193 ok193 (kk := 3) rfl (fun g6 => ?_)))))))))
    refine wZ rg (o_storeB (atL (k := 9) rfl) sz193 (by decide) rfl (w := .agg [.int .i64 c, .int .i64 a, .int .i64 b]) rfl rfl rfl (v := .agg [.int .i64 c, .int .i64 a, .int .i64 b]) rfl setL (nZ (qZ (qZ ?_))))
    refine Vc.drawn' mixed rg (fun _ => jcr2) (by kernel_rfl) ?_
    refine dP rfl rfl (o_move (v := .ptr q0 k0 g0 0 0) rfl (dP rfl rfl (o_nilP rfl (dP rfl rfl (o_faP td153 rfl rfl (by rw [sz151]; decide) rfl (dL (E := ([(q0, k0)], [])) rfl rfl (by simp) (cfn) (o_loadB1 (atX hne0 hdx 0 rfl) sz151 ag151 rfl rfl (v := .map q5 k5 g5) rfl ?_)))))))
    refine dL (E := ([(rg, 9)], [])) rfl rfl (by simp) (cfa (by simp [apartE]) (cfn)) (o_loadBA (atL (k := 9) rfl) sz193 (by decide) ag193 rfl rfl (v := .agg [.int .i64 c, .int .i64 a, .int .i64 b]) rfl (dL (E := ([(q5, k5)], [])) rfl rfl (by simp) (cfo (by kernel_rfl) (cfo (by kernel_rfl) (cfn))) (o_lookup2 (atX hne5 hdx 3 rfl) td151 ksh193 ok3 (z := 0) zav3 rfl rfl ?_)))
    refine dP rfl rfl (o_move (v := .tuple [.int .i64 (Option.getD (mget memo [c, a, b]) 0), .bool (Option.isSome (mget memo [c, a, b]))]) rfl (dP rfl rfl (o_extract (v := .int .i64 (Option.getD (mget memo [c, a, b]) 0)) rfl rfl rfl (dP rfl rfl (o_extract (v := .bool (Option.isSome (mget memo [c, a, b]))) rfl rfl rfl (dP rfl rfl (o_assign (v := .int .i64 (Option.getD (mget memo [c, a, b]) 0)) rfl ?_)))))))
    refine dP rfl rfl (o_assign (v := .bool (Option.isSome (mget memo [c, a, b]))) rfl (dN (qZ (rZ (mvZ (.bool (Option.isSome (mget memo [c, a, b]))) rfl (nZ ?_))))))
    refine Vc.cond' rfl (fun hb => ?_) (fun hb => ?_)
    · replace h := h.1 hb
      refine qZ (rZ (mvZ (.int .i64 (Option.getD (mget memo [c, a, b]) 0)) rfl (asZ (.int .i64 (Option.getD (mget memo [c, a, b]) 0)) rfl (nZ ?_))))
      refine Vc.ret' ?_
      refine res_tmp (v := .int .i64 (Option.getD (mget memo [c, a, b]) 0)) rfl (res_nil ?_)
      show Gives _ (.int .i64 (Option.getD (mget memo [c, a, b]) 0)) _
      exact gives_out (hfr _ rfl) (VW.refl _) (hQ _ _ _ _ _ h)
    replace h := h.2 hb
    refine Vc.skip' ?_
    refine qZ (rZ (mvZ (.ptr q0 k0 g0 0 0) rfl (mvZ (.int .i64 c) rfl ?_)))
    refine wZ rg (o_call (us := [.ptr q0 k0 g0 0 0, AV.int .i64 c]) rfl (vl' vr (vl' vr (vn))) (ctrX (sx_c (atX hne0 hdx 0 rfl) (sx_c (atX hne1 hdx 4 rfl) (sx_c (atX hne2 hdx 5 rfl) (sx_c (atX hne3 hdx 1 rfl) (sx_c (atX hne4 hdx 2 rfl) (sx_c (atX hne5 hdx 3 rfl) (sx_n))))))) (decision_Table__level__e_ctr (dk_c (ni_c (dk_at 0 4 hdk rfl rfl rfl) (ni_c (dk_at 0 5 hdk rfl rfl rfl) (ni_c (dk_at 0 1 hdk rfl rfl rfl) (ni_c (dk_at 0 2 hdk rfl rfl rfl) (ni_c (dk_at 0 3 hdk rfl rfl rfl) (ni_n)))))) (dk_c (ni_c (dk_at 4 5 hdk rfl rfl rfl) (ni_c (ni_s (dk_at 1 4 hdk rfl rfl rfl)) (ni_c (ni_s (dk_at 2 4 hdk rfl rfl rfl)) (ni_c (ni_s (dk_at 3 4 hdk rfl rfl rfl)) (ni_n))))) (dk_c (ni_c (ni_s (dk_at 1 5 hdk rfl rfl rfl)) (ni_c (ni_s (dk_at 2 5 hdk rfl rfl rfl)) (ni_c (ni_s (dk_at 3 5 hdk rfl rfl rfl)) (ni_n)))) (dk_c (ni_c (dk_at 1 2 hdk rfl rfl rfl) (ni_c (dk_at 1 3 hdk rfl rfl rfl) (ni_n))) (dk_c (ni_c (dk_at 2 3 hdk rfl rfl rfl) (ni_n)) (dk_c (ni_n) (dk_n))))))) h fun r h => ?_)))
    refine Wl.eqS (sx_c (atX hne0 hdx 0 rfl) (sx_c (atX hne1 hdx 4 rfl) (sx_c (atX hne2 hdx 5 rfl) (sx_c (atX hne3 hdx 1 rfl) (sx_c (atX hne4 hdx 2 rfl) (sx_c (atX hne5 hdx 3 rfl) (sx_n))))))) ?_
    refine mvZ (.ptr q0 k0 g0 0 0) rfl (mvZ (.int .i64 a) rfl ?_)
    refine wZ rg (o_call (us := [.ptr q0 k0 g0 0 0, AV.int .i64 a]) rfl (vl' vr (vl' vr (vn))) (ctrX (sx_c (atX hne0 hdx 0 rfl) (sx_c (atX hne1 hdx 4 rfl) (sx_c (atX hne2 hdx 5 rfl) (sx_c (atX hne3 hdx 1 rfl) (sx_c (atX hne4 hdx 2 rfl) (sx_c (atX hne5 hdx 3 rfl) (sx_n))))))) (decision_Table__level__e_ctr (dk_c (ni_c (dk_at 0 4 hdk rfl rfl rfl) (ni_c (dk_at 0 5 hdk rfl rfl rfl) (ni_c (dk_at 0 1 hdk rfl rfl rfl) (ni_c (dk_at 0 2 hdk rfl rfl rfl) (ni_c (dk_at 0 3 hdk rfl rfl rfl) (ni_n)))))) (dk_c (ni_c (dk_at 4 5 hdk rfl rfl rfl) (ni_c (ni_s (dk_at 1 4 hdk rfl rfl rfl)) (ni_c (ni_s (dk_at 2 4 hdk rfl rfl rfl)) (ni_c (ni_s (dk_at 3 4 hdk rfl rfl rfl)) (ni_n))))) (dk_c (ni_c (ni_s (dk_at 1 5 hdk rfl rfl rfl)) (ni_c (ni_s (dk_at 2 5 hdk rfl rfl rfl)) (ni_c (ni_s (dk_at 3 5 hdk rfl rfl rfl)) (ni_n)))) (dk_c (ni_c (dk_at 1 2 hdk rfl rfl rfl) (ni_c (dk_at 1 3 hdk rfl rfl rfl) (ni_n))) (dk_c (ni_c (dk_at 2 3 hdk rfl rfl rfl) (ni_n)) (dk_c (ni_n) (dk_n))))))) h fun r1 h => ?_)))
    refine Wl.eqS (sx_c (atX hne0 hdx 0 rfl) (sx_c (atX hne1 hdx 4 rfl) (sx_c (atX hne2 hdx 5 rfl) (sx_c (atX hne3 hdx 1 rfl) (sx_c (atX hne4 hdx 2 rfl) (sx_c (atX hne5 hdx 3 rfl) (sx_n))))))) ?_
    refine mvZ (.ptr q0 k0 g0 0 0) rfl (mvZ (.int .i64 b) rfl ?_)
    refine wZ rg (o_call (us := [.ptr q0 k0 g0 0 0, AV.int .i64 b]) rfl (vl' vr (vl' vr (vn))) (ctrX (sx_c (atX hne0 hdx 0 rfl) (sx_c (atX hne1 hdx 4 rfl) (sx_c (atX hne2 hdx 5 rfl) (sx_c (atX hne3 hdx 1 rfl) (sx_c (atX hne4 hdx 2 rfl) (sx_c (atX hne5 hdx 3 rfl) (sx_n))))))) (decision_Table__level__e_ctr (dk_c (ni_c (dk_at 0 4 hdk rfl rfl rfl) (ni_c (dk_at 0 5 hdk rfl rfl rfl) (ni_c (dk_at 0 1 hdk rfl rfl rfl) (ni_c (dk_at 0 2 hdk rfl rfl rfl) (ni_c (dk_at 0 3 hdk rfl rfl rfl) (ni_n)))))) (dk_c (ni_c (dk_at 4 5 hdk rfl rfl rfl) (ni_c (ni_s (dk_at 1 4 hdk rfl rfl rfl)) (ni_c (ni_s (dk_at 2 4 hdk rfl rfl rfl)) (ni_c (ni_s (dk_at 3 4 hdk rfl rfl rfl)) (ni_n))))) (dk_c (ni_c (ni_s (dk_at 1 5 hdk rfl rfl rfl)) (ni_c (ni_s (dk_at 2 5 hdk rfl rfl rfl)) (ni_c (ni_s (dk_at 3 5 hdk rfl rfl rfl)) (ni_n)))) (dk_c (ni_c (dk_at 1 2 hdk rfl rfl rfl) (ni_c (dk_at 1 3 hdk rfl rfl rfl) (ni_n))) (dk_c (ni_c (dk_at 2 3 hdk rfl rfl rfl) (ni_n)) (dk_c (ni_n) (dk_n))))))) h fun r2 h => ?_)))
    refine Wl.eqS (sx_c (atX hne0 hdx 0 rfl) (sx_c (atX hne1 hdx 4 rfl) (sx_c (atX hne2 hdx 5 rfl) (sx_c (atX hne3 hdx 1 rfl) (sx_c (atX hne4 hdx 2 rfl) (sx_c (atX hne5 hdx 3 rfl) (sx_n))))))) ?_
    refine wZ rg (o_min3 rfl rfl rfl (asZ (.int .i64 (min (min r r1) r2)) rfl (nZ (qZ (rZ (mvZ (.ptr q0 k0 g0 0 0) rfl (mvZ (.int .i64 c) rfl (mvZ (.int .i64 (min (min r r1) r2)) rfl ?_))))))))
    refine wZ rg (o_call (us := [.ptr q0 k0 g0 0 0, AV.int .i64 c, AV.int .i64 (min (min r r1) r2)]) rfl (vl' vr (vl' vr (vl' vr (vn)))) (ctrX (sx_c (atX hne0 hdx 0 rfl) (sx_c (atX hne1 hdx 4 rfl) (sx_c (atX hne2 hdx 5 rfl) (sx_c (atX hne3 hdx 1 rfl) (sx_c (atX hne4 hdx 2 rfl) (sx_c (atX hne5 hdx 3 rfl) (sx_n))))))) (decision_Table__Kids__e_ctr (dk_c (ni_c (dk_at 0 4 hdk rfl rfl rfl) (ni_c (dk_at 0 5 hdk rfl rfl rfl) (ni_c (dk_at 0 1 hdk rfl rfl rfl) (ni_c (dk_at 0 2 hdk rfl rfl rfl) (ni_c (dk_at 0 3 hdk rfl rfl rfl) (ni_n)))))) (dk_c (ni_c (dk_at 4 5 hdk rfl rfl rfl) (ni_c (ni_s (dk_at 1 4 hdk rfl rfl rfl)) (ni_c (ni_s (dk_at 2 4 hdk rfl rfl rfl)) (ni_c (ni_s (dk_at 3 4 hdk rfl rfl rfl)) (ni_n))))) (dk_c (ni_c (ni_s (dk_at 1 5 hdk rfl rfl rfl)) (ni_c (ni_s (dk_at 2 5 hdk rfl rfl rfl)) (ni_c (ni_s (dk_at 3 5 hdk rfl rfl rfl)) (ni_n)))) (dk_c (ni_c (dk_at 1 2 hdk rfl rfl rfl) (ni_c (dk_at 1 3 hdk rfl rfl rfl) (ni_n))) (dk_c (ni_c (dk_at 2 3 hdk rfl rfl rfl) (ni_n)) (dk_c (ni_n) (dk_n))))))) h fun r3 r4 h => ?_)))
    refine Wl.eqS (sx_c (atX hne0 hdx 0 rfl) (sx_c (atX hne1 hdx 4 rfl) (sx_c (atX hne2 hdx 5 rfl) (sx_c (atX hne3 hdx 1 rfl) (sx_c (atX hne4 hdx 2 rfl) (sx_c (atX hne5 hdx 3 rfl) (sx_n))))))) ?_
    refine mvZ (.tuple [.int .i64 r3, .int .i64 r4]) rfl (wZ rg (o_extract (v := .int .i64 r3) rfl rfl rfl (wZ rg (o_extract (v := .int .i64 r4) rfl rfl rfl (asZ (.int .i64 r3) rfl (asZ (.int .i64 r4) rfl (nZ (qZ (rZ (mvZ (.ptr q0 k0 g0 0 0) rfl (mvZ (.int .i64 a) rfl (mvZ (.int .i64 (min (min r r1) r2)) rfl ?_))))))))))))
    refine wZ rg (o_call (us := [.ptr q0 k0 g0 0 0, AV.int .i64 a, AV.int .i64 (min (min r r1) r2)]) rfl (vl' vr (vl' vr (vl' vr (vn)))) (ctrX (sx_c (atX hne0 hdx 0 rfl) (sx_c (atX hne1 hdx 4 rfl) (sx_c (atX hne2 hdx 5 rfl) (sx_c (atX hne3 hdx 1 rfl) (sx_c (atX hne4 hdx 2 rfl) (sx_c (atX hne5 hdx 3 rfl) (sx_n))))))) (decision_Table__Kids__e_ctr (dk_c (ni_c (dk_at 0 4 hdk rfl rfl rfl) (ni_c (dk_at 0 5 hdk rfl rfl rfl) (ni_c (dk_at 0 1 hdk rfl rfl rfl) (ni_c (dk_at 0 2 hdk rfl rfl rfl) (ni_c (dk_at 0 3 hdk rfl rfl rfl) (ni_n)))))) (dk_c (ni_c (dk_at 4 5 hdk rfl rfl rfl) (ni_c (ni_s (dk_at 1 4 hdk rfl rfl rfl)) (ni_c (ni_s (dk_at 2 4 hdk rfl rfl rfl)) (ni_c (ni_s (dk_at 3 4 hdk rfl rfl rfl)) (ni_n))))) (dk_c (ni_c (ni_s (dk_at 1 5 hdk rfl rfl rfl)) (ni_c (ni_s (dk_at 2 5 hdk rfl rfl rfl)) (ni_c (ni_s (dk_at 3 5 hdk rfl rfl rfl)) (ni_n)))) (dk_c (ni_c (dk_at 1 2 hdk rfl rfl rfl) (ni_c (dk_at 1 3 hdk rfl rfl rfl) (ni_n))) (dk_c (ni_c (dk_at 2 3 hdk rfl rfl rfl) (ni_n)) (dk_c (ni_n) (dk_n))))))) h fun r5 r6 h => ?_)))
    refine Wl.eqS (sx_c (atX hne0 hdx 0 rfl) (sx_c (atX hne1 hdx 4 rfl) (sx_c (atX hne2 hdx 5 rfl) (sx_c (atX hne3 hdx 1 rfl) (sx_c (atX hne4 hdx 2 rfl) (sx_c (atX hne5 hdx 3 rfl) (sx_n))))))) ?_
    refine mvZ (.tuple [.int .i64 r5, .int .i64 r6]) rfl (wZ rg (o_extract (v := .int .i64 r5) rfl rfl rfl (wZ rg (o_extract (v := .int .i64 r6) rfl rfl rfl (asZ (.int .i64 r5) rfl (asZ (.int .i64 r6) rfl (nZ (qZ (rZ (mvZ (.ptr q0 k0 g0 0 0) rfl (mvZ (.int .i64 b) rfl (mvZ (.int .i64 (min (min r r1) r2)) rfl ?_))))))))))))
    refine wZ rg (o_call (us := [.ptr q0 k0 g0 0 0, AV.int .i64 b, AV.int .i64 (min (min r r1) r2)]) rfl (vl' vr (vl' vr (vl' vr (vn)))) (ctrX (sx_c (atX hne0 hdx 0 rfl) (sx_c (atX hne1 hdx 4 rfl) (sx_c (atX hne2 hdx 5 rfl) (sx_c (atX hne3 hdx 1 rfl) (sx_c (atX hne4 hdx 2 rfl) (sx_c (atX hne5 hdx 3 rfl) (sx_n))))))) (decision_Table__Kids__e_ctr (dk_c (ni_c (dk_at 0 4 hdk rfl rfl rfl) (ni_c (dk_at 0 5 hdk rfl rfl rfl) (ni_c (dk_at 0 1 hdk rfl rfl rfl) (ni_c (dk_at 0 2 hdk rfl rfl rfl) (ni_c (dk_at 0 3 hdk rfl rfl rfl) (ni_n)))))) (dk_c (ni_c (dk_at 4 5 hdk rfl rfl rfl) (ni_c (ni_s (dk_at 1 4 hdk rfl rfl rfl)) (ni_c (ni_s (dk_at 2 4 hdk rfl rfl rfl)) (ni_c (ni_s (dk_at 3 4 hdk rfl rfl rfl)) (ni_n))))) (dk_c (ni_c (ni_s (dk_at 1 5 hdk rfl rfl rfl)) (ni_c (ni_s (dk_at 2 5 hdk rfl rfl rfl)) (ni_c (ni_s (dk_at 3 5 hdk rfl rfl rfl)) (ni_n)))) (dk_c (ni_c (dk_at 1 2 hdk rfl rfl rfl) (ni_c (dk_at 1 3 hdk rfl rfl rfl) (ni_n))) (dk_c (ni_c (dk_at 2 3 hdk rfl rfl rfl) (ni_n)) (dk_c (ni_n) (dk_n))))))) h fun r7 r8 h => ?_)))
    refine Wl.eqS (sx_c (atX hne0 hdx 0 rfl) (sx_c (atX hne1 hdx 4 rfl) (sx_c (atX hne2 hdx 5 rfl) (sx_c (atX hne3 hdx 1 rfl) (sx_c (atX hne4 hdx 2 rfl) (sx_c (atX hne5 hdx 3 rfl) (sx_n))))))) ?_
    refine mvZ (.tuple [.int .i64 r7, .int .i64 r8]) rfl (wZ rg (o_extract (v := .int .i64 r7) rfl rfl rfl (wZ rg (o_extract (v := .int .i64 r8) rfl rfl rfl (asZ (.int .i64 r7) rfl (asZ (.int .i64 r8) rfl (nZ (qZ (rZ (mvZ (.ptr q0 k0 g0 0 0) rfl (mvZ (.int .i64 r3) rfl (mvZ (.int .i64 r5) rfl (mvZ (.int .i64 r7) rfl ?_)))))))))))))
    refine wZ rg (o_call (us := [.ptr q0 k0 g0 0 0, AV.int .i64 r3, AV.int .i64 r5, AV.int .i64 r7]) rfl (vl' vr (vl' vr (vl' vr (vl' vr (vn))))) (ctrX (sx_c (atX hne0 hdx 0 rfl) (sx_c (atX hne3 hdx 1 rfl) (sx_c (atX hne4 hdx 2 rfl) (sx_c (atX hne5 hdx 3 rfl) (sx_c (atX hne1 hdx 4 rfl) (sx_c (atX hne2 hdx 5 rfl) (sx_n))))))) (ih (dk_c (ni_c (dk_at 0 1 hdk rfl rfl rfl) (ni_c (dk_at 0 2 hdk rfl rfl rfl) (ni_c (dk_at 0 3 hdk rfl rfl rfl) (ni_c (dk_at 0 4 hdk rfl rfl rfl) (ni_c (dk_at 0 5 hdk rfl rfl rfl) (ni_n)))))) (dk_c (ni_c (dk_at 1 2 hdk rfl rfl rfl) (ni_c (dk_at 1 3 hdk rfl rfl rfl) (ni_c (dk_at 1 4 hdk rfl rfl rfl) (ni_c (dk_at 1 5 hdk rfl rfl rfl) (ni_n))))) (dk_c (ni_c (dk_at 2 3 hdk rfl rfl rfl) (ni_c (dk_at 2 4 hdk rfl rfl rfl) (ni_c (dk_at 2 5 hdk rfl rfl rfl) (ni_n)))) (dk_c (ni_c (dk_at 3 4 hdk rfl rfl rfl) (ni_c (dk_at 3 5 hdk rfl rfl rfl) (ni_n))) (dk_c (ni_c (dk_at 4 5 hdk rfl rfl rfl) (ni_n)) (dk_c (ni_n) (dk_n))))))) h fun u u1 u2 lo g7 h => ?_)))
    refine Wl.eqS (sy_c (sy_c (sy_c (sy_c (sx_c (atX hne1 hdx 4 rfl) (sx_c (atX hne2 hdx 5 rfl) (sx_n))) (setX hne5 hdx 3 rfl rfl)) (setX hne4 hdx 2 rfl rfl)) (setX hne3 hdx 1 rfl rfl)) (setX hne0 hdx 0 rfl rfl)) ?_
    refine asZ (.int .i64 lo) rfl (nZ (qZ (rZ (mvZ (.ptr q0 k0 g0 0 0) rfl (mvZ (.int .i64 r4) rfl (mvZ (.int .i64 r6) rfl (mvZ (.int .i64 r8) rfl ?_)))))))
    refine wZ rg (o_call (us := [.ptr q0 k0 g0 0 0, AV.int .i64 r4, AV.int .i64 r6, AV.int .i64 r8]) rfl (vl' vr (vl' vr (vl' vr (vl' vr (vn))))) (ctrX (sx_c (atX hne0 hdx 0 rfl) (sx_c (atX hne3 hdx 1 rfl) (sx_c (atX hne4 hdx 2 rfl) (sx_c (atX hne5 hdx 3 rfl) (sx_c (atX hne1 hdx 4 rfl) (sx_c (atX hne2 hdx 5 rfl) (sx_n))))))) (ih (dk_c (ni_c (dk_at 0 1 hdk rfl rfl rfl) (ni_c (dk_at 0 2 hdk rfl rfl rfl) (ni_c (dk_at 0 3 hdk rfl rfl rfl) (ni_c (dk_at 0 4 hdk rfl rfl rfl) (ni_c (dk_at 0 5 hdk rfl rfl rfl) (ni_n)))))) (dk_c (ni_c (dk_at 1 2 hdk rfl rfl rfl) (ni_c (dk_at 1 3 hdk rfl rfl rfl) (ni_c (dk_at 1 4 hdk rfl rfl rfl) (ni_c (dk_at 1 5 hdk rfl rfl rfl) (ni_n))))) (dk_c (ni_c (dk_at 2 3 hdk rfl rfl rfl) (ni_c (dk_at 2 4 hdk rfl rfl rfl) (ni_c (dk_at 2 5 hdk rfl rfl rfl) (ni_n)))) (dk_c (ni_c (dk_at 3 4 hdk rfl rfl rfl) (ni_c (dk_at 3 5 hdk rfl rfl rfl) (ni_n))) (dk_c (ni_c (dk_at 4 5 hdk rfl rfl rfl) (ni_n)) (dk_c (ni_n) (dk_n))))))) h fun u3 u4 u5 hi g8 h => ?_)))
    refine Wl.eqS (sy_c (sy_c (sy_c (sy_c (sx_c (atX hne1 hdx 4 rfl) (sx_c (atX hne2 hdx 5 rfl) (sx_n))) (setX hne5 hdx 3 rfl rfl)) (setX hne4 hdx 2 rfl rfl)) (setX hne3 hdx 1 rfl rfl)) (setX hne0 hdx 0 rfl rfl)) ?_
    refine asZ (.int .i64 hi) rfl (nZ (qZ (rZ (mvZ (.ptr q0 k0 g0 0 0) rfl (mvZ (.ptr q0 k0 g0 0 0) rfl (wZ rg (o_nilP rfl (wZ rg (o_faP td153 rfl rfl (by rw [sz25]; decide) rfl (wZ rg (o_loadB1 (atX hne0 hdx 0 rfl) sz25 ag25 rfl rfl (v := .sl 1 q1 k1 g1 0 order.length) rfl (mvZ (.int .i64 (min (min r r1) r2)) rfl (wZ rg (o_idxR0 td25 sz3 (by decide) rfl rfl h.1 ?_))))))))))))))
    have hi1 := h.1
    replace h := h.2
    refine wZ rg (o_loadR1 (atX hne1 hdx 4 rfl) sz3 ag3 rfl (lt_of hi1 (by first | rfl | omega | (simp only [go_sem] <;> omega))) rfl (v := .int .i64 (at' order (min (min r r1) r2))) rfl (mvZ (.int .i64 lo) rfl (mvZ (.int .i64 hi) rfl ?_)))
    refine wZ rg (o_call (us := [.ptr q0 k0 g0 0 0, AV.int .i64 (at' order (min (min r r1) r2)), AV.int .i64 lo, AV.int .i64 hi]) rfl (vl' vr (vl' vr (vl' vr (vl' vr (vn))))) (ctrX (sx_c (atX hne0 hdx 0 rfl) (sx_c (atX hne3 hdx 1 rfl) (sx_c (atX hne4 hdx 2 rfl) (sx_c (atX hne1 hdx 4 rfl) (sx_c (atX hne2 hdx 5 rfl) (sx_c (atX hne5 hdx 3 rfl) (sx_n))))))) (decision_Table__Make__e2_ctr (dk_c (ni_c (dk_at 0 1 hdk rfl rfl rfl) (ni_c (dk_at 0 2 hdk rfl rfl rfl) (ni_c (dk_at 0 4 hdk rfl rfl rfl) (ni_c (dk_at 0 5 hdk rfl rfl rfl) (ni_c (dk_at 0 3 hdk rfl rfl rfl) (ni_n)))))) (dk_c (ni_c (dk_at 1 2 hdk rfl rfl rfl) (ni_c (dk_at 1 4 hdk rfl rfl rfl) (ni_c (dk_at 1 5 hdk rfl rfl rfl) (ni_c (dk_at 1 3 hdk rfl rfl rfl) (ni_n))))) (dk_c (ni_c (dk_at 2 4 hdk rfl rfl rfl) (ni_c (dk_at 2 5 hdk rfl rfl rfl) (ni_c (dk_at 2 3 hdk rfl rfl rfl) (ni_n)))) (dk_c (ni_c (dk_at 4 5 hdk rfl rfl rfl) (ni_c (ni_s (dk_at 3 4 hdk rfl rfl rfl)) (ni_n))) (dk_c (ni_c (ni_s (dk_at 3 5 hdk rfl rfl rfl)) (ni_n)) (dk_c (ni_n) (dk_n))))))) h fun u6 u7 r9 g9 h => ?_)))
    refine Wl.eqS (sy_c (sy_c (sy_c (sx_c (atX hne1 hdx 4 rfl) (sx_c (atX hne2 hdx 5 rfl) (sx_c (atX hne5 hdx 3 rfl) (sx_n)))) (setX hne4 hdx 2 rfl rfl)) (setX hne3 hdx 1 rfl rfl)) (setX hne0 hdx 0 rfl rfl)) ?_
    refine asZ (.int .i64 r9) rfl (nZ (qZ ?_))
    refine Vc.drawn' mixed rg (fun _ => jcr2) (by kernel_rfl) ?_
    refine dP rfl rfl (o_move (v := .ptr q0 k0 g0 0 0) rfl (dP rfl rfl (o_nilP rfl (dP rfl rfl (o_faP td153 rfl rfl (by rw [sz151]; decide) rfl (dL (E := ([(q0, k0)], [])) rfl rfl (by simp) (cfn) (o_loadB1 (atX hne0 hdx 0 rfl) sz151 ag151 rfl rfl (v := .map q5 k5 g5) rfl ?_)))))))
    refine dL (E := ([(rg, 9)], [])) rfl rfl (by simp) (cfa (by simp [apartE]) (cfn)) (o_loadBA (atL (k := 9) rfl) sz193 (by decide) ag193 rfl rfl (v := .agg [.int .i64 c, .int .i64 a, .int .i64 b]) rfl (dP rfl rfl (o_move (v := .int .i64 r9) rfl ?_)))
    refine dL (E := ([], [(q5, k5)])) rfl rfl (by simp) (cfo (by kernel_rfl) (cfo (by kernel_rfl) (cfn))) (o_mapUpd (v := r9) (atX hne5 hdx 3 rfl) td151 ksh193 rfl rfl rfl (setX hne5 hdx 3 rfl rfl) (dN (qZ (rZ (mvZ (.int .i64 r9) rfl (asZ (.int .i64 r9) rfl (nZ ?_)))))))
    refine Vc.ret' ?_
    refine res_tmp (v := .int .i64 r9) rfl (res_nil ?_)
    show Gives _ (.int .i64 r9) _
    exact gives_out (hfr _ rfl) (VW.refl _) (hQ _ _ _ _ _ h)
  refine Vc.blk ?_
  obtain ⟨J, h, hJ⟩ := h
  refine Vc.join' (σ := (Bool)) (fun y => J y) (fun y => envOf [(0, .ptr q0 k0 g0 0 0), (1, .int .i64 c), (2, .int .i64 a), (3, .int .i64 b), (22, .bool y)]) (fun y => stL (stX S [(q0, k0, .arr 5 [.agg [.sl 1 q1 k1 g1 0 order.length, .sl 1 q2 k2 g2 0 place.length, .sl 3 q3 k3 g3 0 nodes.length, .map q4 k4 g4, .map q5 k5 g5]], g0), (q3, k3, .arr 3 (List.map eDNode nodes), g3), (q4, k4, mapE (AV.int .i64) (.many [.i64, .i64, .i64]) unique, g4), (q5, k5, mapE (AV.int .i64) (.many [.i64, .i64, .i64]) memo, g5), (q1, k1, .arr 1 (List.map (AV.int .i64) order), g1), (q2, k2, .arr 1 (List.map (AV.int .i64) place), g2)]) rg []) (fun x h => ?_) ?_
  · replace h := hJ x h
    show Vc _ _ _ _ (envOf [(0, .ptr q0 k0 g0 0 0), (1, .int .i64 c), (2, .int .i64 a), (3, .int .i64 b), (22, .bool x)]) (stL (stX S [(q0, k0, .arr 5 [.agg [.sl 1 q1 k1 g1 0 order.length, .sl 1 q2 k2 g2 0 place.length, .sl 3 q3 k3 g3 0 nodes.length, .map q4 k4 g4, .map q5 k5 g5]], g0), (q3, k3, .arr 3 (List.map eDNode nodes), g3), (q4, k4, mapE (AV.int .i64) (.many [.i64, .i64, .i64]) unique, g4), (q5, k5, mapE (AV.int .i64) (.many [.i64, .i64, .i64]) memo, g5), (q1, k1, .arr 1 (List.map (AV.int .i64) order), g1), (q2, k2, .arr 1 (List.map (AV.int .i64) place), g2)]) rg [])
    refine Vc.cond' rfl (fun hb1 => ?_) (fun hb1 => ?_)
    · replace h := h.1 hb1
      refine qZ (rZ (mvZ (.int .i64 a) rfl (asZ (.int .i64 a) rfl (nZ ?_))))
      refine Vc.ret' ?_
      refine res_tmp (v := .int .i64 a) rfl (res_nil ?_)
      show Gives _ (.int .i64 a) _
      exact gives_out (hfr _ rfl) (VW.refl _) (hQ _ _ _ _ _ h)
    replace h := h.2 hb1
    refine qZ (rZ (mvZ (.int .i64 c) rfl (wZ rg (o_eql rfl rfl (asZ (.bool (c == 0)) rfl (nZ ?_))))))
    refine Vc.cond' rfl (fun hb2 => ?_) (fun hb2 => ?_)
    · replace h := h.1 hb2
      refine qZ (rZ (mvZ (.int .i64 b) rfl (asZ (.int .i64 b) rfl (nZ ?_))))
      refine Vc.ret' ?_
      refine res_tmp (v := .int .i64 b) rfl (res_nil ?_)
      show Gives _ (.int .i64 b) _
      exact gives_out (hfr _ rfl) (VW.refl _) (hQ _ _ _ _ _ h)
    replace h := h.2 hb2
    refine qZ (rZ (mvZ (.int .i64 a) rfl (wZ rg (o_eql rfl rfl (mvZ (.bool (a == 1)) rfl ?_)))))
    refine Wl.guard rfl rfl (fun hb3 => ?_) (fun hb3 => ?_)
    · replace h := h.1 hb3
      refine mvZ (.int .i64 b) rfl ?_
      refine Wl.guardT rfl rfl hb3 ?_
      refine wZ rg (o_eql rfl rfl (wZ rg (o_pickT rfl hb3 (v := .bool (b == 0)) rfl (asZ (.bool (b == 0)) rfl (nZ ?_)))))
      refine Vc.cond' rfl (fun hb4 => ?_) (fun hb4 => ?_)
      · replace h := h.1 hb4
        refine qZ (rZ (mvZ (.int .i64 c) rfl (asZ (.int .i64 c) rfl (nZ ?_))))
        refine Vc.ret' ?_
        refine res_tmp (v := .int .i64 c) rfl (res_nil ?_)
        show Gives _ (.int .i64 c) _
        exact gives_out (hfr _ rfl) (VW.refl _) (hQ _ _ _ _ _ h)
      replace h := h.2 hb4
      refine Vc.skip' ?_
      exact ⟨(), (canon (fc vr (fc vr (fc vr (fc vr (fn))))) (sn)), h⟩
    replace h := h.2 hb3
    refine Wl.guardF rfl rfl hb3 rfl ?_
    refine wZ rg (o_pickF rfl hb3 (v := .bool false) rfl (asZ (.bool false) rfl (nZ ?_)))
    refine Vc.cond' rfl (fun hb => Bool.noConfusion hb) (fun _ => ?_)
    refine Vc.skip' ?_
    exact ⟨(), (canon (fc vr (fc vr (fc vr (fc vr (fn))))) (sn)), h⟩
  refine rZ ?_
  refine mvZ (.int .i64 c) rfl (wZ rg (o_eql rfl rfl (mvZ (.bool (c == 1)) rfl ?_)))
  refine Wl.guard rfl rfl (fun hb5 => ?_) (fun hb5 => ?_)
  · replace h := h.2 hb5
    refine mvZ (.int .i64 a) rfl ?_
    refine Wl.guardT rfl rfl hb5 ?_
    refine mvZ (.int .i64 b) rfl ?_
    refine Wl.guardT rfl rfl hb5 ?_
    refine wZ rg (o_eql rfl rfl (wZ rg (o_pickF rfl hb5 (v := .bool (a == b)) rfl (asZ (.bool (a == b)) rfl (nZ ?_)))))
    exact ⟨(a == b), (canon (fc vr (fc vr (fc vr (fc vr (fc vr (fn)))))) (sn)), h⟩
  replace h := h.1 hb5
  refine Wl.guardF rfl rfl hb5 rfl ?_
  refine Wl.guardF rfl rfl hb5 rfl ?_
  refine wZ rg (o_pickT rfl hb5 (v := .bool true) rfl (asZ (.bool true) rfl (nZ ?_)))
  exact ⟨true, (canon (fc vr (fc vr (fc vr (fc vr (fc vr (fn)))))) (sn)), h⟩
theorem decision_Table__Small_1__e_ctr {fu : Nat} : ∀ {r : Int} {u : Int} {u1 : GMap Bool} {order : List Int} {place : List Int} {nodes : List GDNode} {unique : GMap Int} {memo : GMap Int} {q0 k0 g0 q1 k1 g1 q2 k2 g2 q3 k3 g3 q4 k4 g4 q5 k5 g5 q6 k6 g6 q7 k7 g7 q8 k8 g8 q9 k9 g9 q10 k10 g10 : Nat} (_hdk : DK [(q4, k4), (q0, k0), (q1, k1), (q2, k2), (q3, k3), (q5, k5), (q6, k6), (q7, k7), (q8, k8), (q9, k9), (q10, k10)]) {Q : GMap Bool → Prop} {S : St} {R : AV → St → Prop} (_h : decision_Table__Small_1__e_W fu r u u1 order place nodes unique memo Q) (_hQ : ∀ r1, Q r1 → R (.tuple []) (stX S [(q4, k4, mapE AV.bool (.one .i64) r1, g4), (q0, k0, .arr 1 [.map q4 k4 g4], g0), (q1, k1, .arr 1 [.int .i64 u], g1), (q2, k2, .arr 1 [.fn (.func 124) [] [.ptr q0 k0 g0 0 0, .ptr q1 k1 g1 0 0, .ptr q2 k2 g2 0 0, .ptr q3 k3 g3 0 0]], g2), (q3, k3, .arr 1 [.ptr q5 k5 g5 0 0], g3), (q5, k5, .arr 5 [.agg [.sl 1 q6 k6 g6 0 order.length, .sl 1 q7 k7 g7 0 place.length, .sl 3 q8 k8 g8 0 nodes.length, .map q9 k9 g9, .map q10 k10 g10]], g5), (q6, k6, .arr 1 (List.map (AV.int .i64) order), g6), (q7, k7, .arr 1 (List.map (AV.int .i64) place), g7), (q8, k8, .arr 3 (List.map eDNode nodes), g8), (q9, k9, mapE (AV.int .i64) (.many [.i64, .i64, .i64]) unique, g9), (q10, k10, mapE (AV.int .i64) (.many [.i64, .i64, .i64]) memo, g10)])),
    Ctr Try.prog 124 [AV.int .i64 r, .ptr q0 k0 g0 0 0, .ptr q1 k1 g1 0 0, .ptr q2 k2 g2 0 0, .ptr q3 k3 g3 0 0] (stX S [(q4, k4, mapE AV.bool (.one .i64) u1, g4), (q0, k0, .arr 1 [.map q4 k4 g4], g0), (q1, k1, .arr 1 [.int .i64 u], g1), (q2, k2, .arr 1 [.fn (.func 124) [] [.ptr q0 k0 g0 0 0, .ptr q1 k1 g1 0 0, .ptr q2 k2 g2 0 0, .ptr q3 k3 g3 0 0]], g2), (q3, k3, .arr 1 [.ptr q5 k5 g5 0 0], g3), (q5, k5, .arr 5 [.agg [.sl 1 q6 k6 g6 0 order.length, .sl 1 q7 k7 g7 0 place.length, .sl 3 q8 k8 g8 0 nodes.length, .map q9 k9 g9, .map q10 k10 g10]], g5), (q6, k6, .arr 1 (List.map (AV.int .i64) order), g6), (q7, k7, .arr 1 (List.map (AV.int .i64) place), g7), (q8, k8, .arr 3 (List.map eDNode nodes), g8), (q9, k9, mapE (AV.int .i64) (.many [.i64, .i64, .i64]) unique, g9), (q10, k10, mapE (AV.int .i64) (.many [.i64, .i64, .i64]) memo, g10)]) R := by
  induction fu with
  | zero =>
    intro r u u1 order place nodes unique memo q0 k0 g0 q1 k1 g1 q2 k2 g2 q3 k3 g3 q4 k4 g4 q5 k5 g5 q6 k6 g6 q7 k7 g7 q8 k8 g8 q9 k9 g9 q10 k10 g10 hdk Q S R h hQ
    exact False.elim h
  | succ fu ih =>
  intro r u u1 order place nodes unique memo q0 k0 g0 q1 k1 g1 q2 k2 g2 q3 k3 g3 q4 k4 g4 q5 k5 g5 q6 k6 g6 q7 k7 g7 q8 k8 g8 q9 k9 g9 q10 k10 g10 hdk Q S R h hQ
  rw [decision_Table__Small_1__e_W] at h
  refine enterT Try.func124 rfl Try.ntmps124 Try.results124 (by kernel_rfl) (fun rg hrg => ?_)
  have hdx : DX [(q4, k4, mapE AV.bool (.one .i64) u1, g4), (q0, k0, .arr 1 [.map q4 k4 g4], g0), (q1, k1, .arr 1 [.int .i64 u], g1), (q2, k2, .arr 1 [.fn (.func 124) [] [.ptr q0 k0 g0 0 0, .ptr q1 k1 g1 0 0, .ptr q2 k2 g2 0 0, .ptr q3 k3 g3 0 0]], g2), (q3, k3, .arr 1 [.ptr q5 k5 g5 0 0], g3), (q5, k5, .arr 5 [.agg [.sl 1 q6 k6 g6 0 order.length, .sl 1 q7 k7 g7 0 place.length, .sl 3 q8 k8 g8 0 nodes.length, .map q9 k9 g9, .map q10 k10 g10]], g5), (q6, k6, .arr 1 (List.map (AV.int .i64) order), g6), (q7, k7, .arr 1 (List.map (AV.int .i64) place), g7), (q8, k8, .arr 3 (List.map eDNode nodes), g8), (q9, k9, mapE (AV.int .i64) (.many [.i64, .i64, .i64]) unique, g9), (q10, k10, mapE (AV.int .i64) (.many [.i64, .i64, .i64]) memo, g10)] := hdk
  have hfr := fun X' e => fresh_set (S := S) (rg := rg) (X := [(q4, k4, mapE AV.bool (.one .i64) u1, g4), (q0, k0, .arr 1 [.map q4 k4 g4], g0), (q1, k1, .arr 1 [.int .i64 u], g1), (q2, k2, .arr 1 [.fn (.func 124) [] [.ptr q0 k0 g0 0 0, .ptr q1 k1 g1 0 0, .ptr q2 k2 g2 0 0, .ptr q3 k3 g3 0 0]], g2), (q3, k3, .arr 1 [.ptr q5 k5 g5 0 0], g3), (q5, k5, .arr 5 [.agg [.sl 1 q6 k6 g6 0 order.length, .sl 1 q7 k7 g7 0 place.length, .sl 3 q8 k8 g8 0 nodes.length, .map q9 k9 g9, .map q10 k10 g10]], g5), (q6, k6, .arr 1 (List.map (AV.int .i64) order), g6), (q7, k7, .arr 1 (List.map (AV.int .i64) place), g7), (q8, k8, .arr 3 (List.map eDNode nodes), g8), (q9, k9, mapE (AV.int .i64) (.many [.i64, .i64, .i64]) unique, g9), (q10, k10, mapE (AV.int .i64) (.many [.i64, .i64, .i64]) memo, g10)]) (X' := X') e hrg
  have hne4 := fresh_ne hdx hrg 0 rfl
  have hne0 := fresh_ne hdx hrg 1 rfl
  have hne1 := fresh_ne hdx hrg 2 rfl
  have hne2 := fresh_ne hdx hrg 3 rfl
  have hne3 := fresh_ne hdx hrg 4 rfl
  have hne5 := fresh_ne hdx hrg 5 rfl
  have hne6 := fresh_ne hdx hrg 6 rfl
  have hne7 := fresh_ne hdx hrg 7 rfl
  have hne8 := fresh_ne hdx hrg 8 rfl
  have hne9 := fresh_ne hdx hrg 9 rfl
  have hne10 := fresh_ne hdx hrg 10 rfl
  refine qZ (qZ (rZ (mvZ (.int .i64 r) rfl (wZ rg (o_lss rfl rfl (mvZ (.bool (decide (r < 2))) rfl ?_))))))
  refine Wl.guard rfl rfl (fun hb => ?_) (fun hb => ?_)
  · replace h := h.2 hb
    refine wZ rg (o_loadB1 (atX hne0 hdx 1 rfl) sz156 ag156 rfl rfl (v := .map q4 k4 g4) rfl ?_)
    refine Wl.guardT rfl rfl hb ?_
    refine mvZ (.int .i64 r) rfl ?_
    refine Wl.guardT rfl rfl hb ?_
    refine wZ rg (o_lookup1 (atX hne4 hdx 0 rfl) td156 ksh3 ok4 (z := false) zav4 rfl rfl (wZ rg (o_pickF rfl hb (v := .bool (Option.getD (mget u1 [r]) false)) rfl (mvZ (.bool (Option.getD (mget u1 [r]) false)) rfl ?_))))
    refine Wl.guard rfl rfl (fun hb1 => ?_) (fun hb1 => ?_)
    · replace h := h.2 hb1
      refine wZ rg (o_loadB1 (atX hne0 hdx 1 rfl) sz156 ag156 rfl rfl (v := .map q4 k4 g4) rfl ?_)
      refine Wl.guardT rfl rfl hb1 ?_
      refine wZ rg (o_lenM (atX hne4 hdx 0 rfl) td156 rfl ?_)
      refine Wl.guardT rfl rfl hb1 ?_
      refine wZ rg (o_loadB1 (atX hne1 hdx 2 rfl) sz3 ag3 rfl rfl (v := .int .i64 u) rfl ?_)
      refine Wl.guardT rfl rfl hb1 ?_
      refine wZ rg (o_gtr rfl rfl (wZ rg (o_pickF rfl hb1 (v := .bool (decide (u < ((GMap.n u1 : Nat) : Int)))) rfl (nZ ?_))))
      refine Vc.cond' rfl (fun hb2 => ?_) (fun hb2 => ?_)
      · replace h := h.1 hb2
        refine Vc.ret' ?_
        refine res_nil ?_
        show Gives _ (.tuple []) _
        exact gives_out (hfr _ rfl) (VW.refl _) (hQ _ h)
      replace h := h.2 hb2
      refine Vc.skip' ?_
      refine qZ (rZ (wZ rg (o_loadB1 (atX hne0 hdx 1 rfl) sz156 ag156 rfl rfl (v := .map q4 k4 g4) rfl (mvZ (.int .i64 r) rfl (wZ rg (o_mapUpd (v := true) (atX hne4 hdx 0 rfl) td156 ksh3 rfl rfl rfl (setX hne4 hdx 0 rfl rfl) (nZ (qZ ?_))))))))
      have hg := h.1
      replace h := h.2
      have hi := h.1
      replace h := h.2
      obtain ⟨u2, hc, h⟩ := h
      refine Vc.drawn' mixed rg (usOf [(10, wc (fun _ => .tuple []) [(q0, k0), (q1, k1), (q2, k2), (q3, k3), (q5, k5), (q6, k6), (q7, k7), (q8, k8), (q9, k9), (q10, k10)] [(q4, k4)] (fun _ => [(q4, k4, mapE AV.bool (.one .i64) u2, g4)]))]) (by kernel_rfl) ?_
      refine dL (E := ([(q2, k2)], [])) rfl rfl (by simp) (cfn) (o_loadB1 (atX hne2 hdx 3 rfl) sz157 ag157 rfl rfl (v := .fn (.func 124) [] [.ptr q0 k0 g0 0 0, .ptr q1 k1 g1 0 0, .ptr q2 k2 g2 0 0, .ptr q3 k3 g3 0 0]) rfl (dL (E := ([(q3, k3)], [])) rfl rfl (by simp) (cfa (by simp [apartE]) (cfn)) (o_loadB1 (atX hne3 hdx 4 rfl) sz101 ag101 rfl rfl (v := .ptr q5 k5 g5 0 0) rfl (dP rfl rfl (o_nilP rfl ?_)))))
      refine dP rfl rfl (o_faP td153 rfl rfl (by rw [sz28]; decide) rfl (dL (E := ([(q5, k5)], [])) rfl rfl (by simp) (cfo (by kernel_rfl) (cfa (by simp [apartE]) (cfn))) (o_loadB1 (atX hne5 hdx 5 rfl) sz28 ag28 rfl rfl (v := .sl 3 q8 k8 g8 0 nodes.length) rfl (dP rfl rfl (o_move (v := .int .i64 r) rfl (dP rfl rfl (o_subG rfl rfl hg (dP rfl rfl (o_idxR0 td28 sz97 (by decide) rfl rfl hi ?_)))))))))
      refine dP rfl rfl (o_faP td97 rfl rfl (by rw [sz3]; decide) rfl (dL (E := ([(q8, k8)], [])) rfl rfl (by simp) (cfo (by kernel_rfl) (cfo (by kernel_rfl) (cfa (by simp [apartE]) (cfn)))) (o_loadR1 (atX hne8 hdx 8 rfl) sz3 ag3 rfl (lt_of hi (by first | rfl | omega | (simp only [go_sem] <;> omega))) rfl (v := .int .i64 ((at' nodes (r - 2)).Lo)) rfl ?_)))
      refine dCE (vs := [AV.int .i64 ((at' nodes (r - 2)).Lo), .ptr q0 k0 g0 0 0, .ptr q1 k1 g1 0 0, .ptr q2 k2 g2 0 0, .ptr q3 k3 g3 0 0]) (V := fun _ => .tuple []) (rd := [(q0, k0), (q1, k1), (q2, k2), (q3, k3), (q5, k5), (q6, k6), (q7, k7), (q8, k8), (q9, k9), (q10, k10)]) (wk := [(q4, k4)]) (wr := fun _ => [(q4, k4, mapE AV.bool (.one .i64) u2, g4)]) rfl (vl' vr (vl' vr (vl' vr (vl' vr (vl' vr (vn)))))) rfl (cfo (by kernel_rfl) (cfo (by kernel_rfl) (cfo (by kernel_rfl) (cfo (by kernel_rfl) (cfn))))) (by simp) (fun _ => rfl) (fun S' hA hB => ctrX (sx_c (ag hB 0 rfl (atX hne4 hdx 0 rfl)) (sx_c (ag hA 0 rfl (atX hne0 hdx 1 rfl)) (sx_c (ag hA 1 rfl (atX hne1 hdx 2 rfl)) (sx_c (ag hA 2 rfl (atX hne2 hdx 3 rfl)) (sx_c (ag hA 3 rfl (atX hne3 hdx 4 rfl)) (sx_c (ag hA 4 rfl (atX hne5 hdx 5 rfl)) (sx_c (ag hA 5 rfl (atX hne6 hdx 6 rfl)) (sx_c (ag hA 6 rfl (atX hne7 hdx 7 rfl)) (sx_c (ag hA 7 rfl (atX hne8 hdx 8 rfl)) (sx_c (ag hA 8 rfl (atX hne9 hdx 9 rfl)) (sx_c (ag hA 9 rfl (atX hne10 hdx 10 rfl)) (sx_n)))))))))))) (ih (dk_c (ni_c (dk_at 0 1 hdk rfl rfl rfl) (ni_c (dk_at 0 2 hdk rfl rfl rfl) (ni_c (dk_at 0 3 hdk rfl rfl rfl) (ni_c (dk_at 0 4 hdk rfl rfl rfl) (ni_c (dk_at 0 5 hdk rfl rfl rfl) (ni_c (dk_at 0 6 hdk rfl rfl rfl) (ni_c (dk_at 0 7 hdk rfl rfl rfl) (ni_c (dk_at 0 8 hdk rfl rfl rfl) (ni_c (dk_at 0 9 hdk rfl rfl rfl) (ni_c (dk_at 0 10 hdk rfl rfl rfl) (ni_n))))))))))) (dk_c (ni_c (dk_at 1 2 hdk rfl rfl rfl) (ni_c (dk_at 1 3 hdk rfl rfl rfl) (ni_c (dk_at 1 4 hdk rfl rfl rfl) (ni_c (dk_at 1 5 hdk rfl rfl rfl) (ni_c (dk_at 1 6 hdk rfl rfl rfl) (ni_c (dk_at 1 7 hdk rfl rfl rfl) (ni_c (dk_at 1 8 hdk rfl rfl rfl) (ni_c (dk_at 1 9 hdk rfl rfl rfl) (ni_c (dk_at 1 10 hdk rfl rfl rfl) (ni_n)))))))))) (dk_c (ni_c (dk_at 2 3 hdk rfl rfl rfl) (ni_c (dk_at 2 4 hdk rfl rfl rfl) (ni_c (dk_at 2 5 hdk rfl rfl rfl) (ni_c (dk_at 2 6 hdk rfl rfl rfl) (ni_c (dk_at 2 7 hdk rfl rfl rfl) (ni_c (dk_at 2 8 hdk rfl rfl rfl) (ni_c (dk_at 2 9 hdk rfl rfl rfl) (ni_c (dk_at 2 10 hdk rfl rfl rfl) (ni_n))))))))) (dk_c (ni_c (dk_at 3 4 hdk rfl rfl rfl) (ni_c (dk_at 3 5 hdk rfl rfl rfl) (ni_c (dk_at 3 6 hdk rfl rfl rfl) (ni_c (dk_at 3 7 hdk rfl rfl rfl) (ni_c (dk_at 3 8 hdk rfl rfl rfl) (ni_c (dk_at 3 9 hdk rfl rfl rfl) (ni_c (dk_at 3 10 hdk rfl rfl rfl) (ni_n)))))))) (dk_c (ni_c (dk_at 4 5 hdk rfl rfl rfl) (ni_c (dk_at 4 6 hdk rfl rfl rfl) (ni_c (dk_at 4 7 hdk rfl rfl rfl) (ni_c (dk_at 4 8 hdk rfl rfl rfl) (ni_c (dk_at 4 9 hdk rfl rfl rfl) (ni_c (dk_at 4 10 hdk rfl rfl rfl) (ni_n))))))) (dk_c (ni_c (dk_at 5 6 hdk rfl rfl rfl) (ni_c (dk_at 5 7 hdk rfl rfl rfl) (ni_c (dk_at 5 8 hdk rfl rfl rfl) (ni_c (dk_at 5 9 hdk rfl rfl rfl) (ni_c (dk_at 5 10 hdk rfl rfl rfl) (ni_n)))))) (dk_c (ni_c (dk_at 6 7 hdk rfl rfl rfl) (ni_c (dk_at 6 8 hdk rfl rfl rfl) (ni_c (dk_at 6 9 hdk rfl rfl rfl) (ni_c (dk_at 6 10 hdk rfl rfl rfl) (ni_n))))) (dk_c (ni_c (dk_at 7 8 hdk rfl rfl rfl) (ni_c (dk_at 7 9 hdk rfl rfl rfl) (ni_c (dk_at 7 10 hdk rfl rfl rfl) (ni_n)))) (dk_c (ni_c (dk_at 8 9 hdk rfl rfl rfl) (ni_c (dk_at 8 10 hdk rfl rfl rfl) (ni_n))) (dk_c (ni_c (dk_at 9 10 hdk rfl rfl rfl) (ni_n)) (dk_c (ni_n) (dk_n)))))))))))) hc (fun _ he => by obtain rfl := he; exact ⟨fun i => ([] : List Nat).getD i 0, rfl, sm_c (sx_c (ag hA 0 rfl (atX hne0 hdx 1 rfl)) (sx_c (ag hA 1 rfl (atX hne1 hdx 2 rfl)) (sx_c (ag hA 2 rfl (atX hne2 hdx 3 rfl)) (sx_c (ag hA 3 rfl (atX hne3 hdx 4 rfl)) (sx_c (ag hA 4 rfl (atX hne5 hdx 5 rfl)) (sx_c (ag hA 5 rfl (atX hne6 hdx 6 rfl)) (sx_c (ag hA 6 rfl (atX hne7 hdx 7 rfl)) (sx_c (ag hA 7 rfl (atX hne8 hdx 8 rfl)) (sx_c (ag hA 8 rfl (atX hne9 hdx 9 rfl)) (sx_c (ag hA 9 rfl (atX hne10 hdx 10 rfl)) (sx_n)))))))))))⟩))) (fun _ => ?_)
      refine vdT.eqS (sa_c (sa_n) (setX hne4 hdx 0 rfl rfl)) ?_
      refine dN ?_
      have hg1 := h.1
      replace h := h.2
      have hi1 := h.1
      replace h := h.2
      obtain ⟨u3, hc1, h⟩ := h
      refine Vc.drawn' mixed rg (usOf [(10, wc (fun _ => .tuple []) [(q0, k0), (q1, k1), (q2, k2), (q3, k3), (q5, k5), (q6, k6), (q7, k7), (q8, k8), (q9, k9), (q10, k10)] [(q4, k4)] (fun _ => [(q4, k4, mapE AV.bool (.one .i64) u3, g4)]))]) (by kernel_rfl) ?_
      refine dL (E := ([(q2, k2)], [])) rfl rfl (by simp) (cfn) (o_loadB1 (atX hne2 hdx 3 rfl) sz157 ag157 rfl rfl (v := .fn (.func 124) [] [.ptr q0 k0 g0 0 0, .ptr q1 k1 g1 0 0, .ptr q2 k2 g2 0 0, .ptr q3 k3 g3 0 0]) rfl (dL (E := ([(q3, k3)], [])) rfl rfl (by simp) (cfa (by simp [apartE]) (cfn)) (o_loadB1 (atX hne3 hdx 4 rfl) sz101 ag101 rfl rfl (v := .ptr q5 k5 g5 0 0) rfl (dP rfl rfl (o_nilP rfl ?_)))))
      refine dP rfl rfl (o_faP td153 rfl rfl (by rw [sz28]; decide) rfl (dL (E := ([(q5, k5)], [])) rfl rfl (by simp) (cfo (by kernel_rfl) (cfa (by simp [apartE]) (cfn))) (o_loadB1 (atX hne5 hdx 5 rfl) sz28 ag28 rfl rfl (v := .sl 3 q8 k8 g8 0 nodes.length) rfl (dP rfl rfl (o_move (v := .int .i64 r) rfl (dP rfl rfl (o_subG rfl rfl hg1 (dP rfl rfl (o_idxR0 td28 sz97 (by decide) rfl rfl hi1 ?_)))))))))
      refine dP rfl rfl (o_faP td97 rfl rfl (by rw [sz3]; decide) rfl (dL (E := ([(q8, k8)], [])) rfl rfl (by simp) (cfo (by kernel_rfl) (cfo (by kernel_rfl) (cfa (by simp [apartE]) (cfn)))) (o_loadR1 (atX hne8 hdx 8 rfl) sz3 ag3 rfl (lt_of hi1 (by first | rfl | omega | (simp only [go_sem] <;> omega))) rfl (v := .int .i64 ((at' nodes (r - 2)).Hi)) rfl ?_)))
      refine dCE (vs := [AV.int .i64 ((at' nodes (r - 2)).Hi), .ptr q0 k0 g0 0 0, .ptr q1 k1 g1 0 0, .ptr q2 k2 g2 0 0, .ptr q3 k3 g3 0 0]) (V := fun _ => .tuple []) (rd := [(q0, k0), (q1, k1), (q2, k2), (q3, k3), (q5, k5), (q6, k6), (q7, k7), (q8, k8), (q9, k9), (q10, k10)]) (wk := [(q4, k4)]) (wr := fun _ => [(q4, k4, mapE AV.bool (.one .i64) u3, g4)]) rfl (vl' vr (vl' vr (vl' vr (vl' vr (vl' vr (vn)))))) rfl (cfo (by kernel_rfl) (cfo (by kernel_rfl) (cfo (by kernel_rfl) (cfo (by kernel_rfl) (cfn))))) (by simp) (fun _ => rfl) (fun S' hA hB => ctrX (sx_c (ag hB 0 rfl (atX hne4 hdx 0 rfl)) (sx_c (ag hA 0 rfl (atX hne0 hdx 1 rfl)) (sx_c (ag hA 1 rfl (atX hne1 hdx 2 rfl)) (sx_c (ag hA 2 rfl (atX hne2 hdx 3 rfl)) (sx_c (ag hA 3 rfl (atX hne3 hdx 4 rfl)) (sx_c (ag hA 4 rfl (atX hne5 hdx 5 rfl)) (sx_c (ag hA 5 rfl (atX hne6 hdx 6 rfl)) (sx_c (ag hA 6 rfl (atX hne7 hdx 7 rfl)) (sx_c (ag hA 7 rfl (atX hne8 hdx 8 rfl)) (sx_c (ag hA 8 rfl (atX hne9 hdx 9 rfl)) (sx_c (ag hA 9 rfl (atX hne10 hdx 10 rfl)) (sx_n)))))))))))) (ih (dk_c (ni_c (dk_at 0 1 hdk rfl rfl rfl) (ni_c (dk_at 0 2 hdk rfl rfl rfl) (ni_c (dk_at 0 3 hdk rfl rfl rfl) (ni_c (dk_at 0 4 hdk rfl rfl rfl) (ni_c (dk_at 0 5 hdk rfl rfl rfl) (ni_c (dk_at 0 6 hdk rfl rfl rfl) (ni_c (dk_at 0 7 hdk rfl rfl rfl) (ni_c (dk_at 0 8 hdk rfl rfl rfl) (ni_c (dk_at 0 9 hdk rfl rfl rfl) (ni_c (dk_at 0 10 hdk rfl rfl rfl) (ni_n))))))))))) (dk_c (ni_c (dk_at 1 2 hdk rfl rfl rfl) (ni_c (dk_at 1 3 hdk rfl rfl rfl) (ni_c (dk_at 1 4 hdk rfl rfl rfl) (ni_c (dk_at 1 5 hdk rfl rfl rfl) (ni_c (dk_at 1 6 hdk rfl rfl rfl) (ni_c (dk_at 1 7 hdk rfl rfl rfl) (ni_c (dk_at 1 8 hdk rfl rfl rfl) (ni_c (dk_at 1 9 hdk rfl rfl rfl) (ni_c (dk_at 1 10 hdk rfl rfl rfl) (ni_n)))))))))) (dk_c (ni_c (dk_at 2 3 hdk rfl rfl rfl) (ni_c (dk_at 2 4 hdk rfl rfl rfl) (ni_c (dk_at 2 5 hdk rfl rfl rfl) (ni_c (dk_at 2 6 hdk rfl rfl rfl) (ni_c (dk_at 2 7 hdk rfl rfl rfl) (ni_c (dk_at 2 8 hdk rfl rfl rfl) (ni_c (dk_at 2 9 hdk rfl rfl rfl) (ni_c (dk_at 2 10 hdk rfl rfl rfl) (ni_n))))))))) (dk_c (ni_c (dk_at 3 4 hdk rfl rfl rfl) (ni_c (dk_at 3 5 hdk rfl rfl rfl) (ni_c (dk_at 3 6 hdk rfl rfl rfl) (ni_c (dk_at 3 7 hdk rfl rfl rfl) (ni_c (dk_at 3 8 hdk rfl rfl rfl) (ni_c (dk_at 3 9 hdk rfl rfl rfl) (ni_c (dk_at 3 10 hdk rfl rfl rfl) (ni_n)))))))) (dk_c (ni_c (dk_at 4 5 hdk rfl rfl rfl) (ni_c (dk_at 4 6 hdk rfl rfl rfl) (ni_c (dk_at 4 7 hdk rfl rfl rfl) (ni_c (dk_at 4 8 hdk rfl rfl rfl) (ni_c (dk_at 4 9 hdk rfl rfl rfl) (ni_c (dk_at 4 10 hdk rfl rfl rfl) (ni_n))))))) (dk_c (ni_c (dk_at 5 6 hdk rfl rfl rfl) (ni_c (dk_at 5 7 hdk rfl rfl rfl) (ni_c (dk_at 5 8 hdk rfl rfl rfl) (ni_c (dk_at 5 9 hdk rfl rfl rfl) (ni_c (dk_at 5 10 hdk rfl rfl rfl) (ni_n)))))) (dk_c (ni_c (dk_at 6 7 hdk rfl rfl rfl) (ni_c (dk_at 6 8 hdk rfl rfl rfl) (ni_c (dk_at 6 9 hdk rfl rfl rfl) (ni_c (dk_at 6 10 hdk rfl rfl rfl) (ni_n))))) (dk_c (ni_c (dk_at 7 8 hdk rfl rfl rfl) (ni_c (dk_at 7 9 hdk rfl rfl rfl) (ni_c (dk_at 7 10 hdk rfl rfl rfl) (ni_n)))) (dk_c (ni_c (dk_at 8 9 hdk rfl rfl rfl) (ni_c (dk_at 8 10 hdk rfl rfl rfl) (ni_n))) (dk_c (ni_c (dk_at 9 10 hdk rfl rfl rfl) (ni_n)) (dk_c (ni_n) (dk_n)))))))))))) hc1 (fun _ he => by obtain rfl := he; exact ⟨fun i => ([] : List Nat).getD i 0, rfl, sm_c (sx_c (ag hA 0 rfl (atX hne0 hdx 1 rfl)) (sx_c (ag hA 1 rfl (atX hne1 hdx 2 rfl)) (sx_c (ag hA 2 rfl (atX hne2 hdx 3 rfl)) (sx_c (ag hA 3 rfl (atX hne3 hdx 4 rfl)) (sx_c (ag hA 4 rfl (atX hne5 hdx 5 rfl)) (sx_c (ag hA 5 rfl (atX hne6 hdx 6 rfl)) (sx_c (ag hA 6 rfl (atX hne7 hdx 7 rfl)) (sx_c (ag hA 7 rfl (atX hne8 hdx 8 rfl)) (sx_c (ag hA 8 rfl (atX hne9 hdx 9 rfl)) (sx_c (ag hA 9 rfl (atX hne10 hdx 10 rfl)) (sx_n)))))))))))⟩))) (fun _ => ?_)
      refine vdT.eqS (sa_c (sa_n) (setX hne4 hdx 0 rfl rfl)) ?_
      refine dN ?_
      refine res_nil ?_
      show Gives _ (.tuple []) _
      exact gives_out (hfr _ rfl) (VW.refl _) (hQ _ h)
    replace h := h.1 hb1
    refine Wl.guardF rfl rfl hb1 rfl ?_
    refine Wl.guardF rfl rfl hb1 rfl ?_
    refine Wl.guardF rfl rfl hb1 rfl ?_
    refine wZ rg (o_pickT rfl hb1 (v := .bool true) rfl (nZ ?_))
    refine Vc.cond' rfl (fun _ => ?_) (fun hb => Bool.noConfusion hb)
    refine Vc.ret' ?_
    refine res_nil ?_
    show Gives _ (.tuple []) _
    exact gives_out (hfr _ rfl) (VW.refl _) (hQ _ h)
  replace h := h.1 hb
  refine Wl.guardF rfl rfl hb rfl ?_
  refine Wl.guardF rfl rfl hb rfl ?_
  refine wZ rg (o_pickT rfl hb (v := .bool true) rfl (mvZ (.bool true) rfl ?_))
  refine Wl.guardF rfl rfl rfl rfl ?_
  refine Wl.guardF rfl rfl rfl rfl ?_
  refine Wl.guardF rfl rfl rfl rfl ?_
  refine Wl.guardF rfl rfl rfl rfl ?_
  refine wZ rg (o_pickT rfl rfl (v := .bool true) rfl (nZ ?_))
  refine Vc.cond' rfl (fun _ => ?_) (fun hb => Bool.noConfusion hb)
  refine Vc.ret' ?_
  refine res_nil ?_
  show Gives _ (.tuple []) _
  exact gives_out (hfr _ rfl) (VW.refl _) (hQ _ h)
theorem decision_Table__Small__e_ctr {root : Int} {most : Int} {order : List Int} {place : List Int} {nodes : List GDNode} {unique : GMap Int} {memo : GMap Int} {q0 k0 g0 q1 k1 g1 q2 k2 g2 q3 k3 g3 q4 k4 g4 q5 k5 g5 : Nat} (hdk : DK [(q0, k0), (q1, k1), (q2, k2), (q3, k3), (q4, k4), (q5, k5)]) {Q : Bool → Prop} {S : St} {R : AV → St → Prop} (h : decision_Table__Small__e_W root most order place nodes unique memo Q) (hQ : ∀ r1, Q r1 → R (AV.bool r1) (stX S [(q0, k0, .arr 5 [.agg [.sl 1 q1 k1 g1 0 order.length, .sl 1 q2 k2 g2 0 place.length, .sl 3 q3 k3 g3 0 nodes.length, .map q4 k4 g4, .map q5 k5 g5]], g0), (q1, k1, .arr 1 (List.map (AV.int .i64) order), g1), (q2, k2, .arr 1 (List.map (AV.int .i64) place), g2), (q3, k3, .arr 3 (List.map eDNode nodes), g3), (q4, k4, mapE (AV.int .i64) (.many [.i64, .i64, .i64]) unique, g4), (q5, k5, mapE (AV.int .i64) (.many [.i64, .i64, .i64]) memo, g5)])) :
    Ctr Try.prog 76 [.ptr q0 k0 g0 0 0, AV.int .i64 root, AV.int .i64 most] (stX S [(q0, k0, .arr 5 [.agg [.sl 1 q1 k1 g1 0 order.length, .sl 1 q2 k2 g2 0 place.length, .sl 3 q3 k3 g3 0 nodes.length, .map q4 k4 g4, .map q5 k5 g5]], g0), (q1, k1, .arr 1 (List.map (AV.int .i64) order), g1), (q2, k2, .arr 1 (List.map (AV.int .i64) place), g2), (q3, k3, .arr 3 (List.map eDNode nodes), g3), (q4, k4, mapE (AV.int .i64) (.many [.i64, .i64, .i64]) unique, g4), (q5, k5, mapE (AV.int .i64) (.many [.i64, .i64, .i64]) memo, g5)]) R := by
  unfold decision_Table__Small__e_W at h
  refine enterT Try.func76 rfl Try.ntmps76 Try.results76 (by kernel_rfl) (fun rg hrg => ?_)
  have hdx : DX [(q0, k0, .arr 5 [.agg [.sl 1 q1 k1 g1 0 order.length, .sl 1 q2 k2 g2 0 place.length, .sl 3 q3 k3 g3 0 nodes.length, .map q4 k4 g4, .map q5 k5 g5]], g0), (q1, k1, .arr 1 (List.map (AV.int .i64) order), g1), (q2, k2, .arr 1 (List.map (AV.int .i64) place), g2), (q3, k3, .arr 3 (List.map eDNode nodes), g3), (q4, k4, mapE (AV.int .i64) (.many [.i64, .i64, .i64]) unique, g4), (q5, k5, mapE (AV.int .i64) (.many [.i64, .i64, .i64]) memo, g5)] := hdk
  have hfr := fun X' e => fresh_set (S := S) (rg := rg) (X := [(q0, k0, .arr 5 [.agg [.sl 1 q1 k1 g1 0 order.length, .sl 1 q2 k2 g2 0 place.length, .sl 3 q3 k3 g3 0 nodes.length, .map q4 k4 g4, .map q5 k5 g5]], g0), (q1, k1, .arr 1 (List.map (AV.int .i64) order), g1), (q2, k2, .arr 1 (List.map (AV.int .i64) place), g2), (q3, k3, .arr 3 (List.map eDNode nodes), g3), (q4, k4, mapE (AV.int .i64) (.many [.i64, .i64, .i64]) unique, g4), (q5, k5, mapE (AV.int .i64) (.many [.i64, .i64, .i64]) memo, g5)]) (X' := X') e hrg
  have hne0 := fresh_ne hdx hrg 0 rfl
  have hne1 := fresh_ne hdx hrg 1 rfl
  have hne2 := fresh_ne hdx hrg 2 rfl
  have hne3 := fresh_ne hdx hrg 3 rfl
  have hne4 := fresh_ne hdx hrg 4 rfl
  have hne5 := fresh_ne hdx hrg 5 rfl
  refine qZ (rZ (wZ rg (o_box (v := .ptr q0 k0 g0 0 0) rfl rfl (kk := 1) rfl (by decide) (fun g6 => (wZ rg (o_box (v := .int .i64 most) rfl rfl (kk := 1) rfl (by decide) (fun g7 => (asZ (.bool false) rfl (nZ (qZ (rZ (wZ rg (o_makeMap (enc := AV.bool) td156 ksh3 trivial (fun g8 => (wZ rg (o_alloc zav156 ok156 (kk := 1) rfl (fun g9 => ?_)))))))))))))))))
  refine wZ rg (o_storeB (atL (k := 7) rfl) sz156 (by decide) rfl (w := .map rg 9 g8) rfl rfl rfl (v := .map rg 9 g8) rfl setL (nZ (qZ (rZ (wZ rg (o_alloc zav157 ok157 (kk := 1) rfl (fun g10 => (nZ (qZ (rZ (wZ rg (o_func (vs := []) (us := [.ptr rg 7 g9 0 0, .ptr rg 5 g7 0 0, .ptr rg 8 g10 0 0, .ptr rg 3 g6 0 0]) rfl rfl ?_))))))))))))
  refine wZ rg (o_storeB (atL (k := 8) rfl) sz157 (by decide) rfl (w := .fn (.func 124) [] [.ptr rg 7 g9 0 0, .ptr rg 5 g7 0 0, .ptr rg 8 g10 0 0, .ptr rg 3 g6 0 0]) rfl rfl rfl (v := .fn (.func 124) [] [.ptr rg 7 g9 0 0, .ptr rg 5 g7 0 0, .ptr rg 8 g10 0 0, .ptr rg 3 g6 0 0]) rfl setL (nZ (qZ (rZ ?_))))
  refine wZ rg (o_loadB1 (atL (k := 8) rfl) sz157 ag157 rfl rfl (v := .fn (.func 124) [] [.ptr rg 7 g9 0 0, .ptr rg 5 g7 0 0, .ptr rg 8 g10 0 0, .ptr rg 3 g6 0 0]) rfl (mvZ (.int .i64 root) rfl ?_))
  obtain ⟨_, h⟩ := h
  refine wZ rg (o_call (us := [AV.int .i64 root, .ptr rg 7 g9 0 0, .ptr rg 5 g7 0 0, .ptr rg 8 g10 0 0, .ptr rg 3 g6 0 0]) rfl (vl' vr (vl' vr (vl' vr (vl' vr (vl' vr (vn)))))) (ctrX (sx_c (atL (k := 9) rfl) (sx_c (atL (k := 7) rfl) (sx_c (atL (k := 5) rfl) (sx_c (atL (k := 8) rfl) (sx_c (atL (k := 3) rfl) (sx_c (atX hne0 hdx 0 rfl) (sx_c (atX hne1 hdx 1 rfl) (sx_c (atX hne2 hdx 2 rfl) (sx_c (atX hne3 hdx 3 rfl) (sx_c (atX hne4 hdx 4 rfl) (sx_c (atX hne5 hdx 5 rfl) (sx_n)))))))))))) (decision_Table__Small_1__e_ctr (dk_c (ni_c (ni_o rfl) (ni_c (ni_o rfl) (ni_c (ni_o rfl) (ni_c (ni_o rfl) (ni_c (ni_a hne0) (ni_c (ni_a hne1) (ni_c (ni_a hne2) (ni_c (ni_a hne3) (ni_c (ni_a hne4) (ni_c (ni_a hne5) (ni_n))))))))))) (dk_c (ni_c (ni_o rfl) (ni_c (ni_o rfl) (ni_c (ni_o rfl) (ni_c (ni_a hne0) (ni_c (ni_a hne1) (ni_c (ni_a hne2) (ni_c (ni_a hne3) (ni_c (ni_a hne4) (ni_c (ni_a hne5) (ni_n)))))))))) (dk_c (ni_c (ni_o rfl) (ni_c (ni_o rfl) (ni_c (ni_a hne0) (ni_c (ni_a hne1) (ni_c (ni_a hne2) (ni_c (ni_a hne3) (ni_c (ni_a hne4) (ni_c (ni_a hne5) (ni_n))))))))) (dk_c (ni_c (ni_o rfl) (ni_c (ni_a hne0) (ni_c (ni_a hne1) (ni_c (ni_a hne2) (ni_c (ni_a hne3) (ni_c (ni_a hne4) (ni_c (ni_a hne5) (ni_n)))))))) (dk_c (ni_c (ni_a hne0) (ni_c (ni_a hne1) (ni_c (ni_a hne2) (ni_c (ni_a hne3) (ni_c (ni_a hne4) (ni_c (ni_a hne5) (ni_n))))))) (dk_c (ni_c (dk_at 0 1 hdk rfl rfl rfl) (ni_c (dk_at 0 2 hdk rfl rfl rfl) (ni_c (dk_at 0 3 hdk rfl rfl rfl) (ni_c (dk_at 0 4 hdk rfl rfl rfl) (ni_c (dk_at 0 5 hdk rfl rfl rfl) (ni_n)))))) (dk_c (ni_c (dk_at 1 2 hdk rfl rfl rfl) (ni_c (dk_at 1 3 hdk rfl rfl rfl) (ni_c (dk_at 1 4 hdk rfl rfl rfl) (ni_c (dk_at 1 5 hdk rfl rfl rfl) (ni_n))))) (dk_c (ni_c (dk_at 2 3 hdk rfl rfl rfl) (ni_c (dk_at 2 4 hdk rfl rfl rfl) (ni_c (dk_at 2 5 hdk rfl rfl rfl) (ni_n)))) (dk_c (ni_c (dk_at 3 4 hdk rfl rfl rfl) (ni_c (dk_at 3 5 hdk rfl rfl rfl) (ni_n))) (dk_c (ni_c (dk_at 4 5 hdk rfl rfl rfl) (ni_n)) (dk_c (ni_n) (dk_n)))))))))))) h fun u h => ?_)))
  refine Wl.eqS (sy_c (sx_c (atL (k := 7) rfl) (sx_c (atL (k := 5) rfl) (sx_c (atL (k := 8) rfl) (sx_c (atL (k := 3) rfl) (sx_c (atX hne0 hdx 0 rfl) (sx_c (atX hne1 hdx 1 rfl) (sx_c (atX hne2 hdx 2 rfl) (sx_c (atX hne3 hdx 3 rfl) (sx_c (atX hne4 hdx 4 rfl) (sx_c (atX hne5 hdx 5 rfl) (sx_n))))))))))) setL) ?_
  refine nZ (qZ (rZ (wZ rg (o_loadB1 (atL (k := 7) rfl) sz156 ag156 rfl rfl (v := .map rg 9 g8) rfl (wZ rg (o_lenM (atL (k := 9) rfl) td156 rfl (wZ rg (o_loadB1 (atL (k := 5) rfl) sz3 ag3 rfl rfl (v := .int .i64 most) rfl (wZ rg (o_leq rfl rfl (asZ (.bool (decide (((GMap.n u : Nat) : Int) ≤ most))) rfl (nZ ?_))))))))))))
  refine Vc.ret' ?_
  refine res_tmp (v := .bool (decide (((GMap.n u : Nat) : Int) ≤ most))) rfl (res_nil ?_)
  show Gives _ (.bool (decide (((GMap.n u : Nat) : Int) ≤ most))) _
  exact gives_out (hfr _ rfl) (VW.refl _) (hQ _ h)
theorem decision_Table__Export_1__e2_ctr {fu : Nat} : ∀ {r : Int} {Root : Int} {u : GMap Int} {Order : List Int} {Nodes : List GDNode} {order : List Int} {place : List Int} {nodes : List GDNode} {unique : GMap Int} {memo : GMap Int} {q0 k0 g0 q1 k1 g1 q2 k2 g2 q3 k3 g3 q4 k4 g4 q5 k5 g5 q6 k6 g6 q7 k7 g7 q8 k8 g8 q9 k9 g9 q10 k10 g10 q11 k11 g11 q12 k12 g12 : Nat} (_hdk : DK [(q3, k3), (q4, k4), (q7, k7), (q0, k0), (q1, k1), (q2, k2), (q5, k5), (q6, k6), (q8, k8), (q9, k9), (q10, k10), (q11, k11), (q12, k12)]) {Q : GMap Int → List GDNode → Int → Prop} {S : St} {R : AV → St → Prop} (_h : decision_Table__Export_1__e2_W fu r Root u Order Nodes order place nodes unique memo Q) (_hQ : ∀ r1 r2 r3, ∀ h7, Q r1 r2 r3 → R (AV.int .i64 r3) (stX S [(q3, k3, .arr 3 [.agg [.sl 1 q6 k6 g6 0 Order.length, .sl 3 q7 k7 h7 0 r2.length, .int .i64 Root]], g3), (q4, k4, mapE (AV.int .i64) (.one .i64) r1, g4), (q7, k7, .arr 3 (List.map eDNode r2), h7), (q0, k0, .arr 1 [.map q4 k4 g4], g0), (q1, k1, .arr 1 [.ptr q5 k5 g5 0 0], g1), (q2, k2, .arr 1 [.fn (.func 125) [] [.ptr q0 k0 g0 0 0, .ptr q1 k1 g1 0 0, .ptr q2 k2 g2 0 0, .ptr q3 k3 g3 0 0]], g2), (q5, k5, .arr 5 [.agg [.sl 1 q8 k8 g8 0 order.length, .sl 1 q9 k9 g9 0 place.length, .sl 3 q10 k10 g10 0 nodes.length, .map q11 k11 g11, .map q12 k12 g12]], g5), (q6, k6, .arr 1 (List.map (AV.int .i64) Order), g6), (q8, k8, .arr 1 (List.map (AV.int .i64) order), g8), (q9, k9, .arr 1 (List.map (AV.int .i64) place), g9), (q10, k10, .arr 3 (List.map eDNode nodes), g10), (q11, k11, mapE (AV.int .i64) (.many [.i64, .i64, .i64]) unique, g11), (q12, k12, mapE (AV.int .i64) (.many [.i64, .i64, .i64]) memo, g12)])),
    Ctr Try.prog 125 [AV.int .i64 r, .ptr q0 k0 g0 0 0, .ptr q1 k1 g1 0 0, .ptr q2 k2 g2 0 0, .ptr q3 k3 g3 0 0] (stX S [(q3, k3, .arr 3 [.agg [.sl 1 q6 k6 g6 0 Order.length, .sl 3 q7 k7 g7 0 Nodes.length, .int .i64 Root]], g3), (q4, k4, mapE (AV.int .i64) (.one .i64) u, g4), (q7, k7, .arr 3 (List.map eDNode Nodes), g7), (q0, k0, .arr 1 [.map q4 k4 g4], g0), (q1, k1, .arr 1 [.ptr q5 k5 g5 0 0], g1), (q2, k2, .arr 1 [.fn (.func 125) [] [.ptr q0 k0 g0 0 0, .ptr q1 k1 g1 0 0, .ptr q2 k2 g2 0 0, .ptr q3 k3 g3 0 0]], g2), (q5, k5, .arr 5 [.agg [.sl 1 q8 k8 g8 0 order.length, .sl 1 q9 k9 g9 0 place.length, .sl 3 q10 k10 g10 0 nodes.length, .map q11 k11 g11, .map q12 k12 g12]], g5), (q6, k6, .arr 1 (List.map (AV.int .i64) Order), g6), (q8, k8, .arr 1 (List.map (AV.int .i64) order), g8), (q9, k9, .arr 1 (List.map (AV.int .i64) place), g9), (q10, k10, .arr 3 (List.map eDNode nodes), g10), (q11, k11, mapE (AV.int .i64) (.many [.i64, .i64, .i64]) unique, g11), (q12, k12, mapE (AV.int .i64) (.many [.i64, .i64, .i64]) memo, g12)]) R := by
  induction fu with
  | zero =>
    intro r Root u Order Nodes order place nodes unique memo q0 k0 g0 q1 k1 g1 q2 k2 g2 q3 k3 g3 q4 k4 g4 q5 k5 g5 q6 k6 g6 q7 k7 g7 q8 k8 g8 q9 k9 g9 q10 k10 g10 q11 k11 g11 q12 k12 g12 hdk Q S R h hQ
    exact False.elim h
  | succ fu ih =>
  intro r Root u Order Nodes order place nodes unique memo q0 k0 g0 q1 k1 g1 q2 k2 g2 q3 k3 g3 q4 k4 g4 q5 k5 g5 q6 k6 g6 q7 k7 g7 q8 k8 g8 q9 k9 g9 q10 k10 g10 q11 k11 g11 q12 k12 g12 hdk Q S R h hQ
  rw [decision_Table__Export_1__e2_W] at h
  refine enterT Try.func125 rfl Try.ntmps125 Try.results125 (by kernel_rfl) (fun rg hrg => ?_)
  have hdx : DX [(q3, k3, .arr 3 [.agg [.sl 1 q6 k6 g6 0 Order.length, .sl 3 q7 k7 g7 0 Nodes.length, .int .i64 Root]], g3), (q4, k4, mapE (AV.int .i64) (.one .i64) u, g4), (q7, k7, .arr 3 (List.map eDNode Nodes), g7), (q0, k0, .arr 1 [.map q4 k4 g4], g0), (q1, k1, .arr 1 [.ptr q5 k5 g5 0 0], g1), (q2, k2, .arr 1 [.fn (.func 125) [] [.ptr q0 k0 g0 0 0, .ptr q1 k1 g1 0 0, .ptr q2 k2 g2 0 0, .ptr q3 k3 g3 0 0]], g2), (q5, k5, .arr 5 [.agg [.sl 1 q8 k8 g8 0 order.length, .sl 1 q9 k9 g9 0 place.length, .sl 3 q10 k10 g10 0 nodes.length, .map q11 k11 g11, .map q12 k12 g12]], g5), (q6, k6, .arr 1 (List.map (AV.int .i64) Order), g6), (q8, k8, .arr 1 (List.map (AV.int .i64) order), g8), (q9, k9, .arr 1 (List.map (AV.int .i64) place), g9), (q10, k10, .arr 3 (List.map eDNode nodes), g10), (q11, k11, mapE (AV.int .i64) (.many [.i64, .i64, .i64]) unique, g11), (q12, k12, mapE (AV.int .i64) (.many [.i64, .i64, .i64]) memo, g12)] := hdk
  have hfr := fun X' e => fresh_set (S := S) (rg := rg) (X := [(q3, k3, .arr 3 [.agg [.sl 1 q6 k6 g6 0 Order.length, .sl 3 q7 k7 g7 0 Nodes.length, .int .i64 Root]], g3), (q4, k4, mapE (AV.int .i64) (.one .i64) u, g4), (q7, k7, .arr 3 (List.map eDNode Nodes), g7), (q0, k0, .arr 1 [.map q4 k4 g4], g0), (q1, k1, .arr 1 [.ptr q5 k5 g5 0 0], g1), (q2, k2, .arr 1 [.fn (.func 125) [] [.ptr q0 k0 g0 0 0, .ptr q1 k1 g1 0 0, .ptr q2 k2 g2 0 0, .ptr q3 k3 g3 0 0]], g2), (q5, k5, .arr 5 [.agg [.sl 1 q8 k8 g8 0 order.length, .sl 1 q9 k9 g9 0 place.length, .sl 3 q10 k10 g10 0 nodes.length, .map q11 k11 g11, .map q12 k12 g12]], g5), (q6, k6, .arr 1 (List.map (AV.int .i64) Order), g6), (q8, k8, .arr 1 (List.map (AV.int .i64) order), g8), (q9, k9, .arr 1 (List.map (AV.int .i64) place), g9), (q10, k10, .arr 3 (List.map eDNode nodes), g10), (q11, k11, mapE (AV.int .i64) (.many [.i64, .i64, .i64]) unique, g11), (q12, k12, mapE (AV.int .i64) (.many [.i64, .i64, .i64]) memo, g12)]) (X' := X') e hrg
  have hne3 := fresh_ne hdx hrg 0 rfl
  have hne4 := fresh_ne hdx hrg 1 rfl
  have hne7 := fresh_ne hdx hrg 2 rfl
  have hne0 := fresh_ne hdx hrg 3 rfl
  have hne1 := fresh_ne hdx hrg 4 rfl
  have hne2 := fresh_ne hdx hrg 5 rfl
  have hne5 := fresh_ne hdx hrg 6 rfl
  have hne6 := fresh_ne hdx hrg 7 rfl
  have hne8 := fresh_ne hdx hrg 8 rfl
  have hne9 := fresh_ne hdx hrg 9 rfl
  have hne10 := fresh_ne hdx hrg 10 rfl
  have hne11 := fresh_ne hdx hrg 11 rfl
  have hne12 := fresh_ne hdx hrg 12 rfl
  refine qZ (rZ (asZ (.int .i64 0) rfl (nZ (qZ (qZ (rZ (wZ rg (o_loadB1 (atX hne0 hdx 3 rfl) sz158 ag158 rfl rfl (v := .map q4 k4 g4) rfl (mvZ (.int .i64 r) rfl (wZ rg (o_lookup2 (atX hne4 hdx 1 rfl) td158 ksh3 ok3 (z := 0) zav3 rfl rfl (mvZ (.tuple [.int .i64 (Option.getD (mget u [r]) 0), .bool (Option.isSome (mget u [r]))]) rfl ?_))))))))))))
  refine wZ rg (o_extract (v := .int .i64 (Option.getD (mget u [r]) 0)) rfl rfl rfl (wZ rg (o_extract (v := .bool (Option.isSome (mget u [r]))) rfl rfl rfl (asZ (.int .i64 (Option.getD (mget u [r]) 0)) rfl (asZ (.bool (Option.isSome (mget u [r]))) rfl (nZ (qZ (rZ (mvZ (.bool (Option.isSome (mget u [r]))) rfl (nZ ?_))))))))))
  refine Vc.cond' rfl (fun hb => ?_) (fun hb => ?_)
  · replace h := h.1 hb
    refine qZ (rZ (mvZ (.int .i64 (Option.getD (mget u [r]) 0)) rfl (asZ (.int .i64 (Option.getD (mget u [r]) 0)) rfl (nZ ?_))))
    refine Vc.ret' ?_
    refine res_tmp (v := .int .i64 (Option.getD (mget u [r]) 0)) rfl (res_nil ?_)
    show Gives _ (.int .i64 (Option.getD (mget u [r]) 0)) _
    exact gives_out (hfr _ rfl) (VW.refl _) (hQ _ _ _ _ h)
  replace h := h.2 hb
  refine Vc.skip' ?_
  refine qZ (rZ (wZ rg (o_loadB1 (atX hne1 hdx 4 rfl) sz101 ag101 rfl rfl (v := .ptr q5 k5 g5 0 0) rfl (wZ rg (o_nilP rfl (wZ rg (o_faP td153 rfl rfl (by rw [sz28]; decide) rfl (wZ rg (o_loadB1 (atX hne5 hdx 6 rfl) sz28 ag28 rfl rfl (v := .sl 3 q10 k10 g10 0 nodes.length) rfl (mvZ (.int .i64 r) rfl (wZ rg (o_subG rfl rfl h.1 ?_))))))))))))
  replace h := h.2
  refine wZ rg (o_idxR0 td28 sz97 (by decide) rfl rfl h.1 ?_)
  have hi := h.1
  replace h := h.2
  refine wZ rg (o_loadRA (atX hne10 hdx 10 rfl) sz97 (by decide) ag97 rfl (lt_of hi (by first | rfl | omega | (simp only [go_sem] <;> omega))) rfl (v := eDNode (at' nodes (r - 2))) rfl (wZ rg (o_alloc zav97 ok97 (kk := 3) rfl (fun g13 => (wZ rg (o_storeB (atL (k := 9) rfl) sz97 (by decide) rfl (w := eDNode (at' nodes (r - 2))) rfl rfl rfl (v := eDNode (at' nodes (r - 2))) rfl setL (nZ (qZ (rZ ?_)))))))))
  refine wZ rg (o_loadB1 (atX hne2 hdx 5 rfl) sz103 ag103 rfl rfl (v := .fn (.func 125) [] [.ptr q0 k0 g0 0 0, .ptr q1 k1 g1 0 0, .ptr q2 k2 g2 0 0, .ptr q3 k3 g3 0 0]) rfl (wZ rg (o_faP td97 rfl rfl (by rw [sz3]; decide) rfl (wZ rg (o_loadB1 (atL (k := 9) rfl) sz3 ag3 rfl rfl (v := .int .i64 ((at' nodes (r - 2)).Lo)) rfl ?_)))))
  refine wZ rg (o_call (us := [AV.int .i64 ((at' nodes (r - 2)).Lo), .ptr q0 k0 g0 0 0, .ptr q1 k1 g1 0 0, .ptr q2 k2 g2 0 0, .ptr q3 k3 g3 0 0]) rfl (vl' vr (vl' vr (vl' vr (vl' vr (vl' vr (vn)))))) (ctrX (sx_c (atX hne3 hdx 0 rfl) (sx_c (atX hne4 hdx 1 rfl) (sx_c (atX hne7 hdx 2 rfl) (sx_c (atX hne0 hdx 3 rfl) (sx_c (atX hne1 hdx 4 rfl) (sx_c (atX hne2 hdx 5 rfl) (sx_c (atX hne5 hdx 6 rfl) (sx_c (atX hne6 hdx 7 rfl) (sx_c (atX hne8 hdx 8 rfl) (sx_c (atX hne9 hdx 9 rfl) (sx_c (atX hne10 hdx 10 rfl) (sx_c (atX hne11 hdx 11 rfl) (sx_c (atX hne12 hdx 12 rfl) (sx_n)))))))))))))) (ih (dk_c (ni_c (dk_at 0 1 hdk rfl rfl rfl) (ni_c (dk_at 0 2 hdk rfl rfl rfl) (ni_c (dk_at 0 3 hdk rfl rfl rfl) (ni_c (dk_at 0 4 hdk rfl rfl rfl) (ni_c (dk_at 0 5 hdk rfl rfl rfl) (ni_c (dk_at 0 6 hdk rfl rfl rfl) (ni_c (dk_at 0 7 hdk rfl rfl rfl) (ni_c (dk_at 0 8 hdk rfl rfl rfl) (ni_c (dk_at 0 9 hdk rfl rfl rfl) (ni_c (dk_at 0 10 hdk rfl rfl rfl) (ni_c (dk_at 0 11 hdk rfl rfl rfl) (ni_c (dk_at 0 12 hdk rfl rfl rfl) (ni_n))))))))))))) (dk_c (ni_c (dk_at 1 2 hdk rfl rfl rfl) (ni_c (dk_at 1 3 hdk rfl rfl rfl) (ni_c (dk_at 1 4 hdk rfl rfl rfl) (ni_c (dk_at 1 5 hdk rfl rfl rfl) (ni_c (dk_at 1 6 hdk rfl rfl rfl) (ni_c (dk_at 1 7 hdk rfl rfl rfl) (ni_c (dk_at 1 8 hdk rfl rfl rfl) (ni_c (dk_at 1 9 hdk rfl rfl rfl) (ni_c (dk_at 1 10 hdk rfl rfl rfl) (ni_c (dk_at 1 11 hdk rfl rfl rfl) (ni_c (dk_at 1 12 hdk rfl rfl rfl) (ni_n)))))))))))) (dk_c (ni_c (dk_at 2 3 hdk rfl rfl rfl) (ni_c (dk_at 2 4 hdk rfl rfl rfl) (ni_c (dk_at 2 5 hdk rfl rfl rfl) (ni_c (dk_at 2 6 hdk rfl rfl rfl) (ni_c (dk_at 2 7 hdk rfl rfl rfl) (ni_c (dk_at 2 8 hdk rfl rfl rfl) (ni_c (dk_at 2 9 hdk rfl rfl rfl) (ni_c (dk_at 2 10 hdk rfl rfl rfl) (ni_c (dk_at 2 11 hdk rfl rfl rfl) (ni_c (dk_at 2 12 hdk rfl rfl rfl) (ni_n))))))))))) (dk_c (ni_c (dk_at 3 4 hdk rfl rfl rfl) (ni_c (dk_at 3 5 hdk rfl rfl rfl) (ni_c (dk_at 3 6 hdk rfl rfl rfl) (ni_c (dk_at 3 7 hdk rfl rfl rfl) (ni_c (dk_at 3 8 hdk rfl rfl rfl) (ni_c (dk_at 3 9 hdk rfl rfl rfl) (ni_c (dk_at 3 10 hdk rfl rfl rfl) (ni_c (dk_at 3 11 hdk rfl rfl rfl) (ni_c (dk_at 3 12 hdk rfl rfl rfl) (ni_n)))))))))) (dk_c (ni_c (dk_at 4 5 hdk rfl rfl rfl) (ni_c (dk_at 4 6 hdk rfl rfl rfl) (ni_c (dk_at 4 7 hdk rfl rfl rfl) (ni_c (dk_at 4 8 hdk rfl rfl rfl) (ni_c (dk_at 4 9 hdk rfl rfl rfl) (ni_c (dk_at 4 10 hdk rfl rfl rfl) (ni_c (dk_at 4 11 hdk rfl rfl rfl) (ni_c (dk_at 4 12 hdk rfl rfl rfl) (ni_n))))))))) (dk_c (ni_c (dk_at 5 6 hdk rfl rfl rfl) (ni_c (dk_at 5 7 hdk rfl rfl rfl) (ni_c (dk_at 5 8 hdk rfl rfl rfl) (ni_c (dk_at 5 9 hdk rfl rfl rfl) (ni_c (dk_at 5 10 hdk rfl rfl rfl) (ni_c (dk_at 5 11 hdk rfl rfl rfl) (ni_c (dk_at 5 12 hdk rfl rfl rfl) (ni_n)))))))) (dk_c (ni_c (dk_at 6 7 hdk rfl rfl rfl) (ni_c (dk_at 6 8 hdk rfl rfl rfl) (ni_c (dk_at 6 9 hdk rfl rfl rfl) (ni_c (dk_at 6 10 hdk rfl rfl rfl) (ni_c (dk_at 6 11 hdk rfl rfl rfl) (ni_c (dk_at 6 12 hdk rfl rfl rfl) (ni_n))))))) (dk_c (ni_c (dk_at 7 8 hdk rfl rfl rfl) (ni_c (dk_at 7 9 hdk rfl rfl rfl) (ni_c (dk_at 7 10 hdk rfl rfl rfl) (ni_c (dk_at 7 11 hdk rfl rfl rfl) (ni_c (dk_at 7 12 hdk rfl rfl rfl) (ni_n)))))) (dk_c (ni_c (dk_at 8 9 hdk rfl rfl rfl) (ni_c (dk_at 8 10 hdk rfl rfl rfl) (ni_c (dk_at 8 11 hdk rfl rfl rfl) (ni_c (dk_at 8 12 hdk rfl rfl rfl) (ni_n))))) (dk_c (ni_c (dk_at 9 10 hdk rfl rfl rfl) (ni_c (dk_at 9 11 hdk rfl rfl rfl) (ni_c (dk_at 9 12 hdk rfl rfl rfl) (ni_n)))) (dk_c (ni_c (dk_at 10 11 hdk rfl rfl rfl) (ni_c (dk_at 10 12 hdk rfl rfl rfl) (ni_n))) (dk_c (ni_c (dk_at 11 12 hdk rfl rfl rfl) (ni_n)) (dk_c (ni_n) (dk_n)))))))))))))) h fun u1 u2 lo g14 h => ?_)))
  refine Wl.eqS (sy_c (sy_c (sy_c (sx_c (atX hne0 hdx 3 rfl) (sx_c (atX hne1 hdx 4 rfl) (sx_c (atX hne2 hdx 5 rfl) (sx_c (atX hne5 hdx 6 rfl) (sx_c (atX hne6 hdx 7 rfl) (sx_c (atX hne8 hdx 8 rfl) (sx_c (atX hne9 hdx 9 rfl) (sx_c (atX hne10 hdx 10 rfl) (sx_c (atX hne11 hdx 11 rfl) (sx_c (atX hne12 hdx 12 rfl) (sx_n))))))))))) (setX hne7 hdx 2 rfl rfl)) (setX hne4 hdx 1 rfl rfl)) (setX hne3 hdx 0 rfl rfl)) ?_
  refine asZ (.int .i64 lo) rfl (nZ (qZ (rZ (wZ rg (o_loadB1 (atX hne2 hdx 5 rfl) sz103 ag103 rfl rfl (v := .fn (.func 125) [] [.ptr q0 k0 g0 0 0, .ptr q1 k1 g1 0 0, .ptr q2 k2 g2 0 0, .ptr q3 k3 g3 0 0]) rfl (wZ rg (o_faP td97 rfl rfl (by rw [sz3]; decide) rfl (wZ rg (o_loadB1 (atL (k := 9) rfl) sz3 ag3 rfl rfl (v := .int .i64 ((at' nodes (r - 2)).Hi)) rfl ?_)))))))))
  refine wZ rg (o_call (us := [AV.int .i64 ((at' nodes (r - 2)).Hi), .ptr q0 k0 g0 0 0, .ptr q1 k1 g1 0 0, .ptr q2 k2 g2 0 0, .ptr q3 k3 g3 0 0]) rfl (vl' vr (vl' vr (vl' vr (vl' vr (vl' vr (vn)))))) (ctrX (sx_c (atX hne3 hdx 0 rfl) (sx_c (atX hne4 hdx 1 rfl) (sx_c (atX hne7 hdx 2 rfl) (sx_c (atX hne0 hdx 3 rfl) (sx_c (atX hne1 hdx 4 rfl) (sx_c (atX hne2 hdx 5 rfl) (sx_c (atX hne5 hdx 6 rfl) (sx_c (atX hne6 hdx 7 rfl) (sx_c (atX hne8 hdx 8 rfl) (sx_c (atX hne9 hdx 9 rfl) (sx_c (atX hne10 hdx 10 rfl) (sx_c (atX hne11 hdx 11 rfl) (sx_c (atX hne12 hdx 12 rfl) (sx_n)))))))))))))) (ih (dk_c (ni_c (dk_at 0 1 hdk rfl rfl rfl) (ni_c (dk_at 0 2 hdk rfl rfl rfl) (ni_c (dk_at 0 3 hdk rfl rfl rfl) (ni_c (dk_at 0 4 hdk rfl rfl rfl) (ni_c (dk_at 0 5 hdk rfl rfl rfl) (ni_c (dk_at 0 6 hdk rfl rfl rfl) (ni_c (dk_at 0 7 hdk rfl rfl rfl) (ni_c (dk_at 0 8 hdk rfl rfl rfl) (ni_c (dk_at 0 9 hdk rfl rfl rfl) (ni_c (dk_at 0 10 hdk rfl rfl rfl) (ni_c (dk_at 0 11 hdk rfl rfl rfl) (ni_c (dk_at 0 12 hdk rfl rfl rfl) (ni_n))))))))))))) (dk_c (ni_c (dk_at 1 2 hdk rfl rfl rfl) (ni_c (dk_at 1 3 hdk rfl rfl rfl) (ni_c (dk_at 1 4 hdk rfl rfl rfl) (ni_c (dk_at 1 5 hdk rfl rfl rfl) (ni_c (dk_at 1 6 hdk rfl rfl rfl) (ni_c (dk_at 1 7 hdk rfl rfl rfl) (ni_c (dk_at 1 8 hdk rfl rfl rfl) (ni_c (dk_at 1 9 hdk rfl rfl rfl) (ni_c (dk_at 1 10 hdk rfl rfl rfl) (ni_c (dk_at 1 11 hdk rfl rfl rfl) (ni_c (dk_at 1 12 hdk rfl rfl rfl) (ni_n)))))))))))) (dk_c (ni_c (dk_at 2 3 hdk rfl rfl rfl) (ni_c (dk_at 2 4 hdk rfl rfl rfl) (ni_c (dk_at 2 5 hdk rfl rfl rfl) (ni_c (dk_at 2 6 hdk rfl rfl rfl) (ni_c (dk_at 2 7 hdk rfl rfl rfl) (ni_c (dk_at 2 8 hdk rfl rfl rfl) (ni_c (dk_at 2 9 hdk rfl rfl rfl) (ni_c (dk_at 2 10 hdk rfl rfl rfl) (ni_c (dk_at 2 11 hdk rfl rfl rfl) (ni_c (dk_at 2 12 hdk rfl rfl rfl) (ni_n))))))))))) (dk_c (ni_c (dk_at 3 4 hdk rfl rfl rfl) (ni_c (dk_at 3 5 hdk rfl rfl rfl) (ni_c (dk_at 3 6 hdk rfl rfl rfl) (ni_c (dk_at 3 7 hdk rfl rfl rfl) (ni_c (dk_at 3 8 hdk rfl rfl rfl) (ni_c (dk_at 3 9 hdk rfl rfl rfl) (ni_c (dk_at 3 10 hdk rfl rfl rfl) (ni_c (dk_at 3 11 hdk rfl rfl rfl) (ni_c (dk_at 3 12 hdk rfl rfl rfl) (ni_n)))))))))) (dk_c (ni_c (dk_at 4 5 hdk rfl rfl rfl) (ni_c (dk_at 4 6 hdk rfl rfl rfl) (ni_c (dk_at 4 7 hdk rfl rfl rfl) (ni_c (dk_at 4 8 hdk rfl rfl rfl) (ni_c (dk_at 4 9 hdk rfl rfl rfl) (ni_c (dk_at 4 10 hdk rfl rfl rfl) (ni_c (dk_at 4 11 hdk rfl rfl rfl) (ni_c (dk_at 4 12 hdk rfl rfl rfl) (ni_n))))))))) (dk_c (ni_c (dk_at 5 6 hdk rfl rfl rfl) (ni_c (dk_at 5 7 hdk rfl rfl rfl) (ni_c (dk_at 5 8 hdk rfl rfl rfl) (ni_c (dk_at 5 9 hdk rfl rfl rfl) (ni_c (dk_at 5 10 hdk rfl rfl rfl) (ni_c (dk_at 5 11 hdk rfl rfl rfl) (ni_c (dk_at 5 12 hdk rfl rfl rfl) (ni_n)))))))) (dk_c (ni_c (dk_at 6 7 hdk rfl rfl rfl) (ni_c (dk_at 6 8 hdk rfl rfl rfl) (ni_c (dk_at 6 9 hdk rfl rfl rfl) (ni_c (dk_at 6 10 hdk rfl rfl rfl) (ni_c (dk_at 6 11 hdk rfl rfl rfl) (ni_c (dk_at 6 12 hdk rfl rfl rfl) (ni_n))))))) (dk_c (ni_c (dk_at 7 8 hdk rfl rfl rfl) (ni_c (dk_at 7 9 hdk rfl rfl rfl) (ni_c (dk_at 7 10 hdk rfl rfl rfl) (ni_c (dk_at 7 11 hdk rfl rfl rfl) (ni_c (dk_at 7 12 hdk rfl rfl rfl) (ni_n)))))) (dk_c (ni_c (dk_at 8 9 hdk rfl rfl rfl) (ni_c (dk_at 8 10 hdk rfl rfl rfl) (ni_c (dk_at 8 11 hdk rfl rfl rfl) (ni_c (dk_at 8 12 hdk rfl rfl rfl) (ni_n))))) (dk_c (ni_c (dk_at 9 10 hdk rfl rfl rfl) (ni_c (dk_at 9 11 hdk rfl rfl rfl) (ni_c (dk_at 9 12 hdk rfl rfl rfl) (ni_n)))) (dk_c (ni_c (dk_at 10 11 hdk rfl rfl rfl) (ni_c (dk_at 10 12 hdk rfl rfl rfl) (ni_n))) (dk_c (ni_c (dk_at 11 12 hdk rfl rfl rfl) (ni_n)) (dk_c (ni_n) (dk_n)))))))))))))) h fun u3 u4 hi1 g15 h => ?_)))
  refine Wl.eqS (sy_c (sy_c (sy_c (sx_c (atX hne0 hdx 3 rfl) (sx_c (atX hne1 hdx 4 rfl) (sx_c (atX hne2 hdx 5 rfl) (sx_c (atX hne5 hdx 6 rfl) (sx_c (atX hne6 hdx 7 rfl) (sx_c (atX hne8 hdx 8 rfl) (sx_c (atX hne9 hdx 9 rfl) (sx_c (atX hne10 hdx 10 rfl) (sx_c (atX hne11 hdx 11 rfl) (sx_c (atX hne12 hdx 12 rfl) (sx_n))))))))))) (setX hne7 hdx 2 rfl rfl)) (setX hne4 hdx 1 rfl rfl)) (setX hne3 hdx 0 rfl rfl)) ?_
  refine asZ (.int .i64 hi1) rfl (nZ (qZ (rZ (wZ rg (o_faP td30 rfl rfl (by rw [sz28]; decide) rfl (wZ rg (o_loadB1 (atX hne3 hdx 0 rfl) sz28 ag28 rfl rfl (v := .sl 3 q7 k7 g15 0 u4.length) rfl (wZ rg (o_faP td97 rfl rfl (by rw [sz3]; decide) rfl (wZ rg (o_loadB1 (atL (k := 9) rfl) sz3 ag3 rfl rfl (v := .int .i64 ((at' nodes (r - 2)).Var)) rfl (mvZ (.int .i64 lo) rfl (mvZ (.int .i64 hi1) rfl ?_)))))))))))))
  refine wZ rg (o_build td97 zav97 bok97 szs97 sz97 (ps := [(0, .int .i64 ((at' nodes (r - 2)).Var)), (1, .int .i64 lo), (2, .int .i64 hi1)]) rfl rfl (v := .agg [.int .i64 ((at' nodes (r - 2)).Var), .int .i64 lo, .int .i64 hi1]) rfl (wZ rg (o_bslice td28 ok97 zav97 (es := [.agg [.int .i64 ((at' nodes (r - 2)).Var), .int .i64 lo, .int .i64 hi1]]) rfl (kk := 3) rfl rfl rfl rfl rfl rfl (fun g16 => ?_))))
  refine wZ rg (o_appR td28 bts97 ok97 zav97 (es := u4) (xs := [(⟨(at' nodes (r - 2)).Var, lo, hi1⟩ : GDNode)]) (enc := eDNode) (atX hne7 hdx 2 rfl) (by first | rfl | omega | (simp only [go_sem] <;> omega)) (view_rowE (atL (k := 43) rfl) (by first | rfl | omega | (simp only [go_sem] <;> omega))) (kk := 3) rfl rfl (fun _ => rfl) (fun _ => rfl) h.1 rfl (fun _ => (setX hne7 hdx 2 rfl rfl)) (fun g17 => ?_))
  replace h := h.2
  refine wZ rg (o_faP td30 rfl rfl (by rw [sz28]; decide) rfl (wZ rg (o_storeB (atX hne3 hdx 0 rfl) sz28 (by decide) rfl (w := .sl 3 q7 k7 g17 0 ((u4 ++ [(⟨(at' nodes (r - 2)).Var, lo, hi1⟩ : GDNode)]).length)) rfl rfl rfl (v := .agg [.sl 1 q6 k6 g6 0 Order.length, .sl 3 q7 k7 g17 0 ((u4 ++ [(⟨(at' nodes (r - 2)).Var, lo, hi1⟩ : GDNode)]).length), .int .i64 Root]) rfl (setX hne3 hdx 0 rfl rfl) (nZ (qZ ?_)))))
  refine rZ ?_
  refine wZ rg (o_loadB1 (atX hne0 hdx 3 rfl) sz158 ag158 rfl rfl (v := .map q4 k4 g4) rfl (mvZ (.int .i64 r) rfl (wZ rg (o_faP td30 rfl rfl (by rw [sz28]; decide) rfl (wZ rg (o_loadB1 (atX hne3 hdx 0 rfl) sz28 ag28 rfl rfl (v := .sl 3 q7 k7 g17 0 ((u4 ++ [(⟨(at' nodes (r - 2)).Var, lo, hi1⟩ : GDNode)]).length)) rfl (wZ rg (o_lenR td28 rfl (wZ rg (o_addG rfl rfl h.1 ?_))))))))))
  replace h := h.2
  refine wZ rg (o_mapUpd (v := (1 + ((u4 ++ [(⟨(at' nodes (r - 2)).Var, lo, hi1⟩ : GDNode)]).length : Int))) (atX hne4 hdx 1 rfl) td158 ksh3 rfl rfl rfl (setX hne4 hdx 1 rfl rfl) (nZ (qZ (rZ (wZ rg (o_loadB1 (atX hne0 hdx 3 rfl) sz158 ag158 rfl rfl (v := .map q4 k4 g4) rfl (mvZ (.int .i64 r) rfl (wZ rg (o_lookup1 (atX hne4 hdx 1 rfl) td158 ksh3 ok3 (z := 0) zav3 rfl rfl ?_)))))))))
  refine asZ (.int .i64 (Option.getD (mget (mput u3 [r] (1 + ((u4 ++ [(⟨(at' nodes (r - 2)).Var, lo, hi1⟩ : GDNode)]).length : Int))) [r]) 0)) rfl (nZ ?_)
  refine Vc.ret' ?_
  refine res_tmp (v := .int .i64 (Option.getD (mget (mput u3 [r] (1 + ((u4 ++ [(⟨(at' nodes (r - 2)).Var, lo, hi1⟩ : GDNode)]).length : Int))) [r]) 0)) rfl (res_nil ?_)
  show Gives _ (.int .i64 (Option.getD (mget (mput u3 [r] (1 + ((u4 ++ [(⟨(at' nodes (r - 2)).Var, lo, hi1⟩ : GDNode)]).length : Int))) [r]) 0)) _
  exact gives_out (hfr _ rfl) (VW.refl _) (hQ _ _ _ _ h)
theorem decision_Table__Export__e_ctr {root : Int} {order : List Int} {place : List Int} {nodes : List GDNode} {unique : GMap Int} {memo : GMap Int} {q0 k0 g0 q1 k1 g1 q2 k2 g2 q3 k3 g3 q4 k4 g4 q5 k5 g5 : Nat} (hdk : DK [(q0, k0), (q1, k1), (q2, k2), (q3, k3), (q4, k4), (q5, k5)]) {Q : GDiagram → Prop} {S : St} {R : AV → St → Prop} (h : decision_Table__Export__e_W root order place nodes unique memo Q) (hQ : ∀ r1, Q r1 → R (eDiagram r1) (stX S [(q0, k0, .arr 5 [.agg [.sl 1 q1 k1 g1 0 order.length, .sl 1 q2 k2 g2 0 place.length, .sl 3 q3 k3 g3 0 nodes.length, .map q4 k4 g4, .map q5 k5 g5]], g0), (q1, k1, .arr 1 (List.map (AV.int .i64) order), g1), (q2, k2, .arr 1 (List.map (AV.int .i64) place), g2), (q3, k3, .arr 3 (List.map eDNode nodes), g3), (q4, k4, mapE (AV.int .i64) (.many [.i64, .i64, .i64]) unique, g4), (q5, k5, mapE (AV.int .i64) (.many [.i64, .i64, .i64]) memo, g5)])) :
    Ctr Try.prog 77 [.ptr q0 k0 g0 0 0, AV.int .i64 root] (stX S [(q0, k0, .arr 5 [.agg [.sl 1 q1 k1 g1 0 order.length, .sl 1 q2 k2 g2 0 place.length, .sl 3 q3 k3 g3 0 nodes.length, .map q4 k4 g4, .map q5 k5 g5]], g0), (q1, k1, .arr 1 (List.map (AV.int .i64) order), g1), (q2, k2, .arr 1 (List.map (AV.int .i64) place), g2), (q3, k3, .arr 3 (List.map eDNode nodes), g3), (q4, k4, mapE (AV.int .i64) (.many [.i64, .i64, .i64]) unique, g4), (q5, k5, mapE (AV.int .i64) (.many [.i64, .i64, .i64]) memo, g5)]) R := by
  unfold decision_Table__Export__e_W at h
  refine enterT Try.func77 rfl Try.ntmps77 Try.results77 (by kernel_rfl) (fun rg hrg => ?_)
  have hdx : DX [(q0, k0, .arr 5 [.agg [.sl 1 q1 k1 g1 0 order.length, .sl 1 q2 k2 g2 0 place.length, .sl 3 q3 k3 g3 0 nodes.length, .map q4 k4 g4, .map q5 k5 g5]], g0), (q1, k1, .arr 1 (List.map (AV.int .i64) order), g1), (q2, k2, .arr 1 (List.map (AV.int .i64) place), g2), (q3, k3, .arr 3 (List.map eDNode nodes), g3), (q4, k4, mapE (AV.int .i64) (.many [.i64, .i64, .i64]) unique, g4), (q5, k5, mapE (AV.int .i64) (.many [.i64, .i64, .i64]) memo, g5)] := hdk
  have hfr := fun X' e => fresh_set (S := S) (rg := rg) (X := [(q0, k0, .arr 5 [.agg [.sl 1 q1 k1 g1 0 order.length, .sl 1 q2 k2 g2 0 place.length, .sl 3 q3 k3 g3 0 nodes.length, .map q4 k4 g4, .map q5 k5 g5]], g0), (q1, k1, .arr 1 (List.map (AV.int .i64) order), g1), (q2, k2, .arr 1 (List.map (AV.int .i64) place), g2), (q3, k3, .arr 3 (List.map eDNode nodes), g3), (q4, k4, mapE (AV.int .i64) (.many [.i64, .i64, .i64]) unique, g4), (q5, k5, mapE (AV.int .i64) (.many [.i64, .i64, .i64]) memo, g5)]) (X' := X') e hrg
  have hne0 := fresh_ne hdx hrg 0 rfl
  have hne1 := fresh_ne hdx hrg 1 rfl
  have hne2 := fresh_ne hdx hrg 2 rfl
  have hne3 := fresh_ne hdx hrg 3 rfl
  have hne4 := fresh_ne hdx hrg 4 rfl
  have hne5 := fresh_ne hdx hrg 5 rfl
  refine qZ (rZ (wZ rg (o_box (v := .ptr q0 k0 g0 0 0) rfl rfl (kk := 1) rfl (by decide) (fun g6 => (wZ rg (o_alloc zav30 ok30 (kk := 3) rfl (fun g7 => (nZ (qZ (rZ (wZ rg (o_loadB1 (atL (k := 2) rfl) sz101 ag101 rfl rfl (v := .ptr q0 k0 g0 0 0) rfl (wZ rg (o_nilP rfl (wZ rg (o_faP td153 rfl rfl (by rw [sz25]; decide) rfl ?_))))))))))))))))
  refine wZ rg (o_loadB1 (atX hne0 hdx 0 rfl) sz25 ag25 rfl rfl (v := .sl 1 q1 k1 g1 0 order.length) rfl (wZ rg (o_appN td25 bts3 ok3 zav3 (xs := order) (enc := AV.int .i64) (view_rowE (atX hne1 hdx 1 rfl) (by first | rfl | omega | (simp only [go_sem] <;> omega))) (kk := 1) rfl rfl (fun _ => rfl) (fun _ => rfl) h.1 rfl (fun g8 => ?_))))
  replace h := h.2
  refine wZ rg (o_build td30 zav30 bok30 szs30 sz30 (ps := [(0, .sl 1 rg 12 g8 0 order.length)]) rfl rfl (v := .agg [.sl 1 rg 12 g8 0 order.length, .nil, .int .i64 0]) rfl (wZ rg (o_alloc zav30 ok30 (kk := 3) rfl (fun g9 => ?_))))
  refine wZ rg (o_storeB (atL (k := 5) rfl) sz30 (by decide) rfl (w := .agg [.sl 1 rg 12 g8 0 order.length, .nil, .int .i64 0]) rfl rfl rfl (v := .agg [.sl 1 rg 12 g8 0 order.length, .nil, .int .i64 0]) rfl setL (nZ (qZ (rZ (wZ rg (o_makeMap (enc := AV.int .i64) td158 ksh3 trivial (fun g10 => (wZ rg (o_insert (v := 0) (atL (k := 14) rfl) td158 ksh3 rfl rfl rfl setL ?_)))))))))
  refine wZ rg (o_insert (v := 1) (atL (k := 14) rfl) td158 ksh3 rfl rfl rfl setL (mvZ (.map rg 14 g10) rfl (wZ rg (o_alloc zav158 ok158 (kk := 1) rfl (fun g11 => (wZ rg (o_storeB (atL (k := 6) rfl) sz158 (by decide) rfl (w := .map rg 14 g10) rfl rfl rfl (v := .map rg 14 g10) rfl setL (nZ (qZ (rZ (wZ rg (o_alloc zav103 ok103 (kk := 1) rfl (fun g12 => (nZ (qZ (rZ ?_))))))))))))))))
  refine wZ rg (o_func (vs := []) (us := [.ptr rg 6 g11 0 0, .ptr rg 2 g6 0 0, .ptr rg 7 g12 0 0, .ptr rg 5 g9 0 0]) rfl rfl (wZ rg (o_storeB (atL (k := 7) rfl) sz103 (by decide) rfl (w := .fn (.func 125) [] [.ptr rg 6 g11 0 0, .ptr rg 2 g6 0 0, .ptr rg 7 g12 0 0, .ptr rg 5 g9 0 0]) rfl rfl rfl (v := .fn (.func 125) [] [.ptr rg 6 g11 0 0, .ptr rg 2 g6 0 0, .ptr rg 7 g12 0 0, .ptr rg 5 g9 0 0]) rfl setL ?_)))
  refine nZ (qZ (rZ (wZ rg (o_loadB1 (atL (k := 7) rfl) sz103 ag103 rfl rfl (v := .fn (.func 125) [] [.ptr rg 6 g11 0 0, .ptr rg 2 g6 0 0, .ptr rg 7 g12 0 0, .ptr rg 5 g9 0 0]) rfl (mvZ (.int .i64 root) rfl ?_)))))
  refine Wl.matB 5 1 6001 3 (b := fun g13 => .agg [.sl 1 rg 12 g8 0 order.length, .sl 3 rg 6001 g13 0 (([] : List GDNode).length), .int .i64 0]) rfl rfl (by decide) (by decide) rfl (fun g13 => ?_)
  obtain ⟨_, h⟩ := h
  refine wZ rg (o_call (us := [AV.int .i64 root, .ptr rg 6 g11 0 0, .ptr rg 2 g6 0 0, .ptr rg 7 g12 0 0, .ptr rg 5 g9 0 0]) rfl (vl' vr (vl' vr (vl' vr (vl' vr (vl' vr (vn)))))) (ctrX (sx_c (atL (k := 5) rfl) (sx_c (atL (k := 14) rfl) (sx_c (atL (k := 6001) rfl) (sx_c (atL (k := 6) rfl) (sx_c (atL (k := 2) rfl) (sx_c (atL (k := 7) rfl) (sx_c (atX hne0 hdx 0 rfl) (sx_c (atL (k := 12) rfl) (sx_c (atX hne1 hdx 1 rfl) (sx_c (atX hne2 hdx 2 rfl) (sx_c (atX hne3 hdx 3 rfl) (sx_c (atX hne4 hdx 4 rfl) (sx_c (atX hne5 hdx 5 rfl) (sx_n)))))))))))))) (decision_Table__Export_1__e2_ctr (dk_c (ni_c (ni_o rfl) (ni_c (ni_o rfl) (ni_c (ni_o rfl) (ni_c (ni_o rfl) (ni_c (ni_o rfl) (ni_c (ni_a hne0) (ni_c (ni_o rfl) (ni_c (ni_a hne1) (ni_c (ni_a hne2) (ni_c (ni_a hne3) (ni_c (ni_a hne4) (ni_c (ni_a hne5) (ni_n))))))))))))) (dk_c (ni_c (ni_o rfl) (ni_c (ni_o rfl) (ni_c (ni_o rfl) (ni_c (ni_o rfl) (ni_c (ni_a hne0) (ni_c (ni_o rfl) (ni_c (ni_a hne1) (ni_c (ni_a hne2) (ni_c (ni_a hne3) (ni_c (ni_a hne4) (ni_c (ni_a hne5) (ni_n)))))))))))) (dk_c (ni_c (ni_o rfl) (ni_c (ni_o rfl) (ni_c (ni_o rfl) (ni_c (ni_a hne0) (ni_c (ni_o rfl) (ni_c (ni_a hne1) (ni_c (ni_a hne2) (ni_c (ni_a hne3) (ni_c (ni_a hne4) (ni_c (ni_a hne5) (ni_n))))))))))) (dk_c (ni_c (ni_o rfl) (ni_c (ni_o rfl) (ni_c (ni_a hne0) (ni_c (ni_o rfl) (ni_c (ni_a hne1) (ni_c (ni_a hne2) (ni_c (ni_a hne3) (ni_c (ni_a hne4) (ni_c (ni_a hne5) (ni_n)))))))))) (dk_c (ni_c (ni_o rfl) (ni_c (ni_a hne0) (ni_c (ni_o rfl) (ni_c (ni_a hne1) (ni_c (ni_a hne2) (ni_c (ni_a hne3) (ni_c (ni_a hne4) (ni_c (ni_a hne5) (ni_n))))))))) (dk_c (ni_c (ni_a hne0) (ni_c (ni_o rfl) (ni_c (ni_a hne1) (ni_c (ni_a hne2) (ni_c (ni_a hne3) (ni_c (ni_a hne4) (ni_c (ni_a hne5) (ni_n)))))))) (dk_c (ni_c (ni_a (Ne.symm hne0)) (ni_c (dk_at 0 1 hdk rfl rfl rfl) (ni_c (dk_at 0 2 hdk rfl rfl rfl) (ni_c (dk_at 0 3 hdk rfl rfl rfl) (ni_c (dk_at 0 4 hdk rfl rfl rfl) (ni_c (dk_at 0 5 hdk rfl rfl rfl) (ni_n))))))) (dk_c (ni_c (ni_a hne1) (ni_c (ni_a hne2) (ni_c (ni_a hne3) (ni_c (ni_a hne4) (ni_c (ni_a hne5) (ni_n)))))) (dk_c (ni_c (dk_at 1 2 hdk rfl rfl rfl) (ni_c (dk_at 1 3 hdk rfl rfl rfl) (ni_c (dk_at 1 4 hdk rfl rfl rfl) (ni_c (dk_at 1 5 hdk rfl rfl rfl) (ni_n))))) (dk_c (ni_c (dk_at 2 3 hdk rfl rfl rfl) (ni_c (dk_at 2 4 hdk rfl rfl rfl) (ni_c (dk_at 2 5 hdk rfl rfl rfl) (ni_n)))) (dk_c (ni_c (dk_at 3 4 hdk rfl rfl rfl) (ni_c (dk_at 3 5 hdk rfl rfl rfl) (ni_n))) (dk_c (ni_c (dk_at 4 5 hdk rfl rfl rfl) (ni_n)) (dk_c (ni_n) (dk_n)))))))))))))) h fun u u1 r g14 h => ?_)))
  refine Wl.eqS (sy_c (sy_c (sy_c (sx_c (atL (k := 6) rfl) (sx_c (atL (k := 2) rfl) (sx_c (atL (k := 7) rfl) (sx_c (atX hne0 hdx 0 rfl) (sx_c (atL (k := 12) rfl) (sx_c (atX hne1 hdx 1 rfl) (sx_c (atX hne2 hdx 2 rfl) (sx_c (atX hne3 hdx 3 rfl) (sx_c (atX hne4 hdx 4 rfl) (sx_c (atX hne5 hdx 5 rfl) (sx_n))))))))))) setL) setL) setL) ?_
  refine wZ rg (o_faP td30 rfl rfl (by rw [sz3]; decide) rfl (wZ rg (o_storeB (atL (k := 5) rfl) sz3 (by decide) rfl (w := .int .i64 r) rfl rfl rfl (v := .agg [.sl 1 rg 12 g8 0 order.length, .sl 3 rg 6001 g14 0 u1.length, .int .i64 r]) rfl setL (nZ (qZ (rZ ?_))))))
  refine wZ rg (o_loadBA (atL (k := 5) rfl) sz30 (by decide) ag30 rfl rfl (v := .agg [.sl 1 rg 12 g8 0 order.length, .sl 3 rg 6001 g14 0 u1.length, .int .i64 r]) rfl ?_)
  refine wZ rg (o_storeB (atL (k := 4) rfl) sz30 (by decide) rfl (w := .agg [.sl 1 rg 12 g8 0 order.length, .sl 3 rg 6001 g14 0 u1.length, .int .i64 r]) rfl rfl rfl (v := .agg [.sl 1 rg 12 g8 0 order.length, .sl 3 rg 6001 g14 0 u1.length, .int .i64 r]) rfl setL (nZ ?_))
  refine Vc.ret' ?_
  refine res_cellA (atL (k := 4) rfl) sz30 (by decide) ag30 rfl rfl (v := .agg [.sl 1 rg 12 g8 0 order.length, .sl 3 rg 6001 g14 0 u1.length, .int .i64 r]) rfl (res_nil ?_)
  show Gives _ (.agg [.sl 1 rg 12 g8 0 order.length, .sl 3 rg 6001 g14 0 u1.length, .int .i64 r]) _
  refine gives_freeze (k := 12) (xs := List.map (AV.int .i64) order) rfl (v' := .agg [eL (AV.int .i64) order, .sl 3 rg 6001 g14 0 u1.length, .int .i64 r]) (VW.aggL (vl' (frz_full rfl) (vl' (frz_ne rfl) (vl' vr (vn))))) ?_
  refine gives_freeze (k := 6001) (xs := List.map eDNode u1) rfl (v' := .agg [eL (AV.int .i64) order, eL eDNode u1, .int .i64 r]) (VW.aggL (vl' vr (vl' (frz_full rfl) (vl' vr (vn))))) ?_
  exact gives_out (hfr _ rfl) (VW.refl _) (hQ _ h)
end Go.Proofs.Ytiamkdpljeemkaa
/- Walks of functions. Conditions: none. -/
namespace Go.Proofs.Ytiamkdpljeemkaa
open Go.Gg
set_option maxRecDepth 100000
theorem decision_Table__Translate__e2_ctr {d : GDiagram} {order : List Int} {place : List Int} {nodes : List GDNode} {unique : GMap Int} {memo : GMap Int} {q0 k0 g0 q1 k1 g1 q2 k2 g2 q3 k3 g3 q4 k4 g4 q5 k5 g5 : Nat} (hdk : DK [(q0, k0), (q3, k3), (q4, k4), (q5, k5), (q1, k1), (q2, k2)]) {Q : List GDNode → GMap Int → GMap Int → Int → Prop} {S : St} {R : AV → St → Prop} (h : decision_Table__Translate__e2_W d order place nodes unique memo Q) (hQ : ∀ r1 r2 r3 r4, ∀ h3, Q r1 r2 r3 r4 → R (AV.int .i64 r4) (stX S [(q0, k0, .arr 5 [.agg [.sl 1 q1 k1 g1 0 order.length, .sl 1 q2 k2 g2 0 place.length, .sl 3 q3 k3 h3 0 r1.length, .map q4 k4 g4, .map q5 k5 g5]], g0), (q3, k3, .arr 3 (List.map eDNode r1), h3), (q4, k4, mapE (AV.int .i64) (.many [.i64, .i64, .i64]) r2, g4), (q5, k5, mapE (AV.int .i64) (.many [.i64, .i64, .i64]) r3, g5), (q1, k1, .arr 1 (List.map (AV.int .i64) order), g1), (q2, k2, .arr 1 (List.map (AV.int .i64) place), g2)])) :
    Ctr Try.prog 132 [.ptr q0 k0 g0 0 0, eDiagram d] (stX S [(q0, k0, .arr 5 [.agg [.sl 1 q1 k1 g1 0 order.length, .sl 1 q2 k2 g2 0 place.length, .sl 3 q3 k3 g3 0 nodes.length, .map q4 k4 g4, .map q5 k5 g5]], g0), (q3, k3, .arr 3 (List.map eDNode nodes), g3), (q4, k4, mapE (AV.int .i64) (.many [.i64, .i64, .i64]) unique, g4), (q5, k5, mapE (AV.int .i64) (.many [.i64, .i64, .i64]) memo, g5), (q1, k1, .arr 1 (List.map (AV.int .i64) order), g1), (q2, k2, .arr 1 (List.map (AV.int .i64) place), g2)]) R := by
  unfold decision_Table__Translate__e2_W at h
  refine enterT Try.func132 rfl Try.ntmps132 Try.results132 (by kernel_rfl) (fun rg hrg => ?_)
  have hdx : DX [(q0, k0, .arr 5 [.agg [.sl 1 q1 k1 g1 0 order.length, .sl 1 q2 k2 g2 0 place.length, .sl 3 q3 k3 g3 0 nodes.length, .map q4 k4 g4, .map q5 k5 g5]], g0), (q3, k3, .arr 3 (List.map eDNode nodes), g3), (q4, k4, mapE (AV.int .i64) (.many [.i64, .i64, .i64]) unique, g4), (q5, k5, mapE (AV.int .i64) (.many [.i64, .i64, .i64]) memo, g5), (q1, k1, .arr 1 (List.map (AV.int .i64) order), g1), (q2, k2, .arr 1 (List.map (AV.int .i64) place), g2)] := hdk
  have hfr := fun X' e => fresh_set (S := S) (rg := rg) (X := [(q0, k0, .arr 5 [.agg [.sl 1 q1 k1 g1 0 order.length, .sl 1 q2 k2 g2 0 place.length, .sl 3 q3 k3 g3 0 nodes.length, .map q4 k4 g4, .map q5 k5 g5]], g0), (q3, k3, .arr 3 (List.map eDNode nodes), g3), (q4, k4, mapE (AV.int .i64) (.many [.i64, .i64, .i64]) unique, g4), (q5, k5, mapE (AV.int .i64) (.many [.i64, .i64, .i64]) memo, g5), (q1, k1, .arr 1 (List.map (AV.int .i64) order), g1), (q2, k2, .arr 1 (List.map (AV.int .i64) place), g2)]) (X' := X') e hrg
  have hne0 := fresh_ne hdx hrg 0 rfl
  have hne3 := fresh_ne hdx hrg 1 rfl
  have hne4 := fresh_ne hdx hrg 2 rfl
  have hne5 := fresh_ne hdx hrg 3 rfl
  have hne1 := fresh_ne hdx hrg 4 rfl
  have hne2 := fresh_ne hdx hrg 5 rfl
  refine qZ (rZ (wZ rg (o_box (v := eDiagram d) rfl rfl (kk := 3) rfl (by decide) (fun g6 => (asZ (.int .i64 0) rfl (nZ (qZ (rZ (wZ rg (o_faP td30 rfl rfl (by rw [sz28]; decide) rfl (wZ rg (o_loadB1 (atL (k := 3) rfl) sz28 ag28 rfl rfl (v := eL eDNode d.Nodes) rfl (wZ rg (o_len td28 rfl (wZ rg (o_addG rfl rfl h.1 ?_))))))))))))))))
  replace h := h.2
  refine wZ rg (o_make td25 bts3 ok3 (enc := AV.int .i64) (z' := 0) zav3 (kk := 1) rfl rfl rfl h.1 (fun g7 => ?_))
  replace h := h.2
  refine asZ (.sl 1 rg 12 g7 0 (Int.toNat (2 + (d.Nodes.length : Int)))) rfl (nZ (qZ (rZ (mvZ (.sl 1 rg 12 g7 0 (Int.toNat (2 + (d.Nodes.length : Int)))) rfl (wZ rg (o_idxR0 td25 sz3 (by decide) rfl rfl h.1 ?_))))))
  have hi := h.1
  replace h := h.2
  refine wZ rg (o_storeR1 (atL (k := 12) rfl) sz3 (by decide) (x' := 1) (fun _ => rfl) rfl rfl (lt_of hi (by first | rfl | omega | (simp only [go_sem] <;> omega))) rfl rfl setL (nZ (qZ (qZ (rZ (wZ rg (o_faP td30 rfl rfl (by rw [sz28]; decide) rfl (wZ rg (o_loadB1 (atL (k := 3) rfl) sz28 ag28 rfl rfl (v := eL eDNode d.Nodes) rfl (wZ rg (o_len td28 rfl (mvZ (.int .i64 0) rfl (nZ ?_)))))))))))))
  refine Vc.blk ?_
  obtain ⟨I, μ, h0, hI⟩ := h
  refine Vc.loop' (σ := ((Int × (List Int) × (List GDNode) × (GMap Int) × (GMap Int)) × (Nat))) (fun y => I y.1) (fun y => μ y.1) (fun y => envOf [(0, .ptr q0 k0 g0 0 0), (3, .ptr rg 3 g6 0 0), (5, .sl 1 rg 12 g7 0 y.1.2.1.length), (16, eL eDNode d.Nodes), (17, .int .i64 (d.Nodes.length : Int)), (18, .int .i64 y.1.1)]) (fun y => stL (stX S [(q0, k0, .arr 5 [.agg [.sl 1 q1 k1 g1 0 order.length, .sl 1 q2 k2 g2 0 place.length, .sl 3 q3 k3 y.2 0 y.1.2.2.1.length, .map q4 k4 g4, .map q5 k5 g5]], g0), (q3, k3, .arr 3 (List.map eDNode y.1.2.2.1), y.2), (q4, k4, mapE (AV.int .i64) (.many [.i64, .i64, .i64]) y.1.2.2.2.1, g4), (q5, k5, mapE (AV.int .i64) (.many [.i64, .i64, .i64]) y.1.2.2.2.2, g5), (q1, k1, .arr 1 (List.map (AV.int .i64) order), g1), (q2, k2, .arr 1 (List.map (AV.int .i64) place), g2)]) rg [(3, .arr 3 [eDiagram d], g6), (12, .arr 1 (List.map (AV.int .i64) y.1.2.1), g7)]) ((0, (set' (rep' (2 + (d.Nodes.length : Int)) 0) 1 1), nodes, unique, memo), g3) (canon (fc vr (fc vr (fc (VW.slen (by first | rfl | omega | (simp only [go_sem] <;> omega))) (fc vr (fc vr (fc vr (fn))))))) (sc rfl (sc rfl (sn)))) h0 (fun y h => ?_)
  obtain ⟨⟨x, refs, x1, x2, x3⟩, g8⟩ := y
  replace h := hI (x, refs, x1, x2, x3) h
  show Vc _ _ _ _ (envOf [(0, .ptr q0 k0 g0 0 0), (3, .ptr rg 3 g6 0 0), (5, .sl 1 rg 12 g7 0 refs.length), (16, eL eDNode d.Nodes), (17, .int .i64 (d.Nodes.length : Int)), (18, .int .i64 x)]) (stL (stX S [(q0, k0, .arr 5 [.agg [.sl 1 q1 k1 g1 0 order.length, .sl 1 q2 k2 g2 0 place.length, .sl 3 q3 k3 g8 0 x1.length, .map q4 k4 g4, .map q5 k5 g5]], g0), (q3, k3, .arr 3 (List.map eDNode x1), g8), (q4, k4, mapE (AV.int .i64) (.many [.i64, .i64, .i64]) x2, g4), (q5, k5, mapE (AV.int .i64) (.many [.i64, .i64, .i64]) x3, g5), (q1, k1, .arr 1 (List.map (AV.int .i64) order), g1), (q2, k2, .arr 1 (List.map (AV.int .i64) place), g2)]) rg [(3, .arr 3 [eDiagram d], g6), (12, .arr 1 (List.map (AV.int .i64) refs), g7)])
  refine qZ (rZ (wZ rg (o_lss rfl rfl (nZ (qZ ?_)))))
  refine Vc.cond' rfl (fun hb => ?_) (fun hb => ?_)
  · replace h := h.1 hb
    refine Vc.skip' ?_
    refine qZ ?_
    refine Vc.blk ?_
    refine qZ (rZ (mvZ (.int .i64 x) rfl (wZ rg (o_idxL td28 sz97 (by decide) (fun _ => rfl) rfl rfl h.1 ?_))))
    replace h := h.2
    refine wZ rg (o_loadIA sz97 (by decide) ag97 rfl rfl (v := eDNode (at' d.Nodes x)) rfl (wZ rg (o_alloc zav97 ok97 (kk := 3) rfl (fun g9 => (asZ (.int .i64 x) rfl (wZ rg (o_storeB (atL (k := 7) rfl) sz97 (by decide) rfl (w := eDNode (at' d.Nodes x)) rfl rfl rfl (v := eDNode (at' d.Nodes x)) rfl setL (nZ ?_))))))))
    have hg := h.1
    replace h := h.2
    obtain ⟨u, u1, r, hc, h⟩ := h
    have hi1 := h.1
    replace h := h.2
    have hi2 := h.1
    replace h := h.2
    obtain ⟨u2, u3, u4, r1, hc1, h⟩ := h
    obtain ⟨_, hc1⟩ := hc1
    have hi3 := h.1
    replace h := h.2
    refine Vc.drawn' mixed rg (usOf [(7, wc (fun _ => .int .i64 r) [(q1, k1), (q2, k2), (q5, k5)] [(q0, k0), (q3, k3), (q4, k4)] (fun gm => [(q0, k0, .arr 5 [.agg [.sl 1 q1 k1 g1 0 order.length, .sl 1 q2 k2 g2 0 place.length, .sl 3 q3 k3 (gm 0) 0 u.length, .map q4 k4 g4, .map q5 k5 g5]], g0), (q3, k3, .arr 3 (List.map eDNode u), (gm 0)), (q4, k4, mapE (AV.int .i64) (.many [.i64, .i64, .i64]) u1, g4)])), (18, wc (fun _ => .int .i64 r1) [(q1, k1), (q2, k2)] [(q0, k0), (q3, k3), (q4, k4), (q5, k5)] (fun gm1 => [(q0, k0, .arr 5 [.agg [.sl 1 q1 k1 g1 0 order.length, .sl 1 q2 k2 g2 0 place.length, .sl 3 q3 k3 (gm1 0) 0 u2.length, .map q4 k4 g4, .map q5 k5 g5]], g0), (q3, k3, .arr 3 (List.map eDNode u2), (gm1 0)), (q4, k4, mapE (AV.int .i64) (.many [.i64, .i64, .i64]) u3, g4), (q5, k5, mapE (AV.int .i64) (.many [.i64, .i64, .i64]) u4, g5)]))]) (by kernel_rfl) ?_
    refine dP rfl rfl (o_move (v := .sl 1 rg 12 g7 0 refs.length) rfl (dP rfl rfl (o_move (v := .int .i64 x) rfl (dP rfl rfl (o_addG rfl rfl hg (dP rfl rfl (o_move (v := .ptr q0 k0 g0 0 0) rfl (dP rfl rfl (o_move (v := .ptr q0 k0 g0 0 0) rfl (dP rfl rfl (o_faP td97 rfl rfl (by rw [sz3]; decide) rfl ?_)))))))))))
    refine dL (E := ([(rg, 7)], [])) rfl rfl (by simp) (cfn) (o_loadB1 (atL (k := 7) rfl) sz3 ag3 rfl rfl (v := .int .i64 ((at' d.Nodes x).Var)) rfl ?_)
    refine dCE (vs := [.ptr q0 k0 g0 0 0, AV.int .i64 ((at' d.Nodes x).Var)]) (V := fun _ => .int .i64 r) (rd := [(q1, k1), (q2, k2), (q5, k5)]) (wk := [(q0, k0), (q3, k3), (q4, k4)]) (wr := fun gm => [(q0, k0, .arr 5 [.agg [.sl 1 q1 k1 g1 0 order.length, .sl 1 q2 k2 g2 0 place.length, .sl 3 q3 k3 (gm 0) 0 u.length, .map q4 k4 g4, .map q5 k5 g5]], g0), (q3, k3, .arr 3 (List.map eDNode u), (gm 0)), (q4, k4, mapE (AV.int .i64) (.many [.i64, .i64, .i64]) u1, g4)]) rfl (vl' vr (vl' vr (vn))) rfl (cfo (by kernel_rfl) (cfn)) (by simp) (fun _ => rfl) (fun S' hA hB => ctrX (sx_c (ag hB 0 rfl (atX hne0 hdx 0 rfl)) (sx_c (ag hB 1 rfl (atX hne3 hdx 1 rfl)) (sx_c (ag hB 2 rfl (atX hne4 hdx 2 rfl)) (sx_c (ag hA 0 rfl (atX hne1 hdx 4 rfl)) (sx_c (ag hA 1 rfl (atX hne2 hdx 5 rfl)) (sx_c (ag hA 2 rfl (atX hne5 hdx 3 rfl)) (sx_n))))))) (decision_Table__Event__e2_ctr (dk_c (ni_c (dk_at 0 1 hdk rfl rfl rfl) (ni_c (dk_at 0 2 hdk rfl rfl rfl) (ni_c (dk_at 0 4 hdk rfl rfl rfl) (ni_c (dk_at 0 5 hdk rfl rfl rfl) (ni_c (dk_at 0 3 hdk rfl rfl rfl) (ni_n)))))) (dk_c (ni_c (dk_at 1 2 hdk rfl rfl rfl) (ni_c (dk_at 1 4 hdk rfl rfl rfl) (ni_c (dk_at 1 5 hdk rfl rfl rfl) (ni_c (dk_at 1 3 hdk rfl rfl rfl) (ni_n))))) (dk_c (ni_c (dk_at 2 4 hdk rfl rfl rfl) (ni_c (dk_at 2 5 hdk rfl rfl rfl) (ni_c (dk_at 2 3 hdk rfl rfl rfl) (ni_n)))) (dk_c (ni_c (dk_at 4 5 hdk rfl rfl rfl) (ni_c (ni_s (dk_at 3 4 hdk rfl rfl rfl)) (ni_n))) (dk_c (ni_c (ni_s (dk_at 3 5 hdk rfl rfl rfl)) (ni_n)) (dk_c (ni_n) (dk_n))))))) hc (fun _ _ _ h3 he => by obtain ⟨rfl, rfl, rfl⟩ := he; exact ⟨fun i => [h3].getD i 0, rfl, sm_c (sm_c (sm_c (sx_c (ag hA 0 rfl (atX hne1 hdx 4 rfl)) (sx_c (ag hA 1 rfl (atX hne2 hdx 5 rfl)) (sx_c (ag hA 2 rfl (atX hne5 hdx 3 rfl)) (sx_n))))))⟩))) (fun gm => ?_)
    refine vdT.eqS (sa_c (sa_c (sa_c (sa_n) (setX hne4 hdx 2 rfl rfl)) (setX hne3 hdx 1 rfl rfl)) (setX hne0 hdx 0 rfl rfl)) ?_
    refine dP rfl rfl (o_move (v := .sl 1 rg 12 g7 0 refs.length) rfl (dP rfl rfl (o_faP td97 rfl rfl (by rw [sz3]; decide) rfl (dL (E := ([(rg, 7)], [])) rfl rfl (by simp) (cfa (by simp [apartE, hne0, hne3, hne4]) (cfa (by simp [apartE]) (cfn))) (o_loadB1 (atL (k := 7) rfl) sz3 ag3 rfl rfl (v := .int .i64 ((at' d.Nodes x).Hi)) rfl (dP rfl rfl (o_idxR0 td25 sz3 (by decide) rfl rfl hi1 ?_)))))))
    refine dL (E := ([(rg, 12)], [])) rfl rfl (by simp) (cfo (by kernel_rfl) (cfa (by simp [apartE, hne0, hne3, hne4]) (cfa (by simp [apartE]) (cfn)))) (o_loadR1 (atL (k := 12) rfl) sz3 ag3 rfl (lt_of hi1 (by first | rfl | omega | (simp only [go_sem] <;> omega))) rfl (v := .int .i64 (at' refs ((at' d.Nodes x).Hi))) rfl (dP rfl rfl (o_move (v := .sl 1 rg 12 g7 0 refs.length) rfl ?_)))
    refine dP rfl rfl (o_faP td97 rfl rfl (by rw [sz3]; decide) rfl (dL (E := ([(rg, 7)], [])) rfl rfl (by simp) (cfa (by simp [apartE]) (cfa (by simp [apartE]) (cfa (by simp [apartE, hne0, hne3, hne4]) (cfa (by simp [apartE]) (cfn))))) (o_loadB1 (atL (k := 7) rfl) sz3 ag3 rfl rfl (v := .int .i64 ((at' d.Nodes x).Lo)) rfl (dP rfl rfl (o_idxR0 td25 sz3 (by decide) rfl rfl hi2 ?_)))))
    refine dL (E := ([(rg, 12)], [])) rfl rfl (by simp) (cfo (by kernel_rfl) (cfa (by simp [apartE]) (cfa (by simp [apartE]) (cfa (by simp [apartE, hne0, hne3, hne4]) (cfa (by simp [apartE]) (cfn)))))) (o_loadR1 (atL (k := 12) rfl) sz3 ag3 rfl (lt_of hi2 (by first | rfl | omega | (simp only [go_sem] <;> omega))) rfl (v := .int .i64 (at' refs ((at' d.Nodes x).Lo))) rfl ?_)
    refine dCE (vs := [.ptr q0 k0 g0 0 0, AV.int .i64 r, AV.int .i64 (at' refs ((at' d.Nodes x).Hi)), AV.int .i64 (at' refs ((at' d.Nodes x).Lo))]) (V := fun _ => .int .i64 r1) (rd := [(q1, k1), (q2, k2)]) (wk := [(q0, k0), (q3, k3), (q4, k4), (q5, k5)]) (wr := fun gm1 => [(q0, k0, .arr 5 [.agg [.sl 1 q1 k1 g1 0 order.length, .sl 1 q2 k2 g2 0 place.length, .sl 3 q3 k3 (gm1 0) 0 u2.length, .map q4 k4 g4, .map q5 k5 g5]], g0), (q3, k3, .arr 3 (List.map eDNode u2), (gm1 0)), (q4, k4, mapE (AV.int .i64) (.many [.i64, .i64, .i64]) u3, g4), (q5, k5, mapE (AV.int .i64) (.many [.i64, .i64, .i64]) u4, g5)]) rfl (vl' vr (vl' vr (vl' vr (vl' vr (vn))))) rfl (cfo (by kernel_rfl) (cfo (by kernel_rfl) (cfo (by kernel_rfl) (cfo (by kernel_rfl) (cfo (by kernel_rfl) (cfo (by kernel_rfl) (cfn))))))) (by simp) (fun _ => rfl) (fun S' hA hB => ctrX (sx_c (ag hB 0 rfl (atX hne0 hdx 0 rfl)) (sx_c (ag hB 1 rfl (atX hne3 hdx 1 rfl)) (sx_c (ag hB 2 rfl (atX hne4 hdx 2 rfl)) (sx_c (ag hB 3 rfl (atX hne5 hdx 3 rfl)) (sx_c (ag hA 0 rfl (atX hne1 hdx 4 rfl)) (sx_c (ag hA 1 rfl (atX hne2 hdx 5 rfl)) (sx_n))))))) (decision_Table__Choose__e_ctr (dk_c (ni_c (dk_at 0 1 hdk rfl rfl rfl) (ni_c (dk_at 0 2 hdk rfl rfl rfl) (ni_c (dk_at 0 3 hdk rfl rfl rfl) (ni_c (dk_at 0 4 hdk rfl rfl rfl) (ni_c (dk_at 0 5 hdk rfl rfl rfl) (ni_n)))))) (dk_c (ni_c (dk_at 1 2 hdk rfl rfl rfl) (ni_c (dk_at 1 3 hdk rfl rfl rfl) (ni_c (dk_at 1 4 hdk rfl rfl rfl) (ni_c (dk_at 1 5 hdk rfl rfl rfl) (ni_n))))) (dk_c (ni_c (dk_at 2 3 hdk rfl rfl rfl) (ni_c (dk_at 2 4 hdk rfl rfl rfl) (ni_c (dk_at 2 5 hdk rfl rfl rfl) (ni_n)))) (dk_c (ni_c (dk_at 3 4 hdk rfl rfl rfl) (ni_c (dk_at 3 5 hdk rfl rfl rfl) (ni_n))) (dk_c (ni_c (dk_at 4 5 hdk rfl rfl rfl) (ni_n)) (dk_c (ni_n) (dk_n))))))) hc1 (fun _ _ _ _ h3 he => by obtain ⟨rfl, rfl, rfl, rfl⟩ := he; exact ⟨fun i => [h3].getD i 0, rfl, sm_c (sm_c (sm_c (sm_c (sx_c (ag hA 0 rfl (atX hne1 hdx 4 rfl)) (sx_c (ag hA 1 rfl (atX hne2 hdx 5 rfl)) (sx_n))))))⟩))) (fun gm1 => ?_)
    refine vdT.eqS (sa_c (sa_c (sa_c (sa_c (sa_n) (setX hne5 hdx 3 rfl rfl)) (setX hne4 hdx 2 rfl rfl)) (setX hne3 hdx 1 rfl rfl)) (setX hne0 hdx 0 rfl rfl)) ?_
    refine dP rfl rfl (o_idxR0 td25 sz3 (by decide) rfl rfl hi3 ?_)
    refine dL (E := ([], [(rg, 12)])) rfl rfl (by simp) (cfo (by kernel_rfl) (cfo (by kernel_rfl) (cfo (by kernel_rfl) (cfo (by kernel_rfl) (cfo (by kernel_rfl) (cfo (by kernel_rfl) (cfo (by kernel_rfl) (cfn)))))))) (o_storeR1 (atL (k := 12) rfl) sz3 (by decide) (x' := r1) (fun _ => rfl) rfl rfl (lt_of hi3 (by first | rfl | omega | (simp only [go_sem] <;> omega))) rfl rfl setL (dN (rZ ?_)))
    refine wZ rg (o_addG rfl rfl h.1 ?_)
    replace h := h.2
    refine mvZ (.int .i64 (x + 1)) rfl (nZ ?_)
    exact ⟨(((x + 1), (set' refs (2 + x) r1), u2, u3, u4), (gm1 0)), (canon (fc vr (fc vr (fc (VW.slen (by first | rfl | omega | (simp only [go_sem] <;> omega))) (fc vr (fc vr (fc vr (fn))))))) (sc rfl (sc rfl (sn)))), h⟩
  replace h := h.2 hb
  refine Vc.exit' (exB_self ?_)
  refine qZ (rZ (mvZ (.sl 1 rg 12 g7 0 refs.length) rfl (wZ rg (o_faP td30 rfl rfl (by rw [sz3]; decide) rfl (wZ rg (o_loadB1 (atL (k := 3) rfl) sz3 ag3 rfl rfl (v := .int .i64 d.Root) rfl (wZ rg (o_idxR0 td25 sz3 (by decide) rfl rfl h.1 ?_))))))))
  have hi4 := h.1
  replace h := h.2
  refine wZ rg (o_loadR1 (atL (k := 12) rfl) sz3 ag3 rfl (lt_of hi4 (by first | rfl | omega | (simp only [go_sem] <;> omega))) rfl (v := .int .i64 (at' refs d.Root)) rfl (asZ (.int .i64 (at' refs d.Root)) rfl (nZ ?_)))
  refine Vc.ret' ?_
  refine res_tmp (v := .int .i64 (at' refs d.Root)) rfl (res_nil ?_)
  show Gives _ (.int .i64 (at' refs d.Root)) _
  exact gives_out (hfr _ rfl) (VW.refl _) (hQ _ _ _ _ _ h)
end Go.Proofs.Ytiamkdpljeemkaa
/- Walks of functions. Conditions: none. -/
namespace Go.Proofs.Ytiamkdpljeemkaa
open Go.Gg
set_option maxRecDepth 100000
theorem order_Check_ctr {o : List Int} {vars : Int} {Q : Option Int → Prop} {S : St} {R : AV → St → Prop} (h : order_Check_W o vars Q) (hQ : ∀ r1, Q r1 → R (eErr 73 r1) S) :
    Ctr Try.prog 52 [eL (AV.int .i64) o, AV.int .i64 vars] S R := by
  unfold order_Check_W at h
  refine enterT Try.func52 rfl Try.ntmps52 Try.results52 (by kernel_rfl) (fun rg hrg => ?_)
  refine qZ (rZ (asZ .niface rfl (nZ (qZ ?_))))
  refine Vc.blk ?_
  obtain ⟨J, h, hJ⟩ := h
  refine Vc.join' (σ := (Bool)) (fun y => J y) (fun y => envOf [(0, eL (AV.int .i64) o), (1, .int .i64 vars), (8, .bool y)]) (fun y => stL S rg []) (fun x h => ?_) ?_
  · replace h := hJ x h
    show Vc _ _ _ _ (envOf [(0, eL (AV.int .i64) o), (1, .int .i64 vars), (8, .bool x)]) (stL S rg [])
    refine Vc.cond' rfl (fun hb => ?_) (fun hb => ?_)
    · replace h := h.1 hb
      refine qZ (rZ (wZ rg (o_iface (by rw [td73]; trivial) (v := .int .i64 3) rfl (asZ (.iface 73 (.int .i64 3)) rfl (nZ ?_)))))
      refine Vc.ret' ?_
      refine res_tmp (v := .iface 73 (.int .i64 3)) rfl (res_nil ?_)
      show Gives _ (.iface 73 (.int .i64 3)) _
      exact gives_out hrg (VW.refl _) (hQ _ h)
    replace h := h.2 hb
    refine qZ (rZ (mvZ (eL (AV.int .i64) o) rfl (wZ rg (o_len td25 rfl (mvZ (.int .i64 vars) rfl (wZ rg (o_neq rfl rfl (asZ (.bool ((o.length : Int) != vars)) rfl (nZ ?_)))))))))
    refine Vc.cond' rfl (fun hb1 => ?_) (fun hb1 => ?_)
    · replace h := h.1 hb1
      refine qZ (rZ (wZ rg (o_iface (by rw [td73]; trivial) (v := .int .i64 11) rfl (asZ (.iface 73 (.int .i64 11)) rfl (nZ ?_)))))
      refine Vc.ret' ?_
      refine res_tmp (v := .iface 73 (.int .i64 11)) rfl (res_nil ?_)
      show Gives _ (.iface 73 (.int .i64 11)) _
      exact gives_out hrg (VW.refl _) (hQ _ h)
    replace h := h.2 hb1
    refine Vc.skip' ?_
    refine qZ (rZ (mvZ (.int .i64 vars) rfl (wZ rg (o_make td110 bts4 ok4 (enc := AV.bool) (z' := false) zav4 (kk := 1) rfl rfl rfl h.1 (fun g1 => ?_)))))
    replace h := h.2
    refine asZ (.sl 1 rg 23 g1 0 (Int.toNat vars)) rfl (nZ (qZ (qZ (rZ (mvZ (eL (AV.int .i64) o) rfl (wZ rg (o_len td25 rfl (mvZ (.int .i64 0) rfl (nZ ?_)))))))))
    refine Vc.blk ?_
    obtain ⟨I, μ, h0, hI⟩ := h
    refine Vc.loop' (σ := ((Int × (List Bool)) × (Nat))) (fun y => I y.1) (fun y => μ y.1) (fun y => envOf [(1, .int .i64 vars), (5, .sl 1 rg 23 y.2 0 y.1.2.length), (24, eL (AV.int .i64) o), (25, .int .i64 (o.length : Int)), (26, .int .i64 y.1.1)]) (fun y => stL S rg [(23, .arr 1 (List.map AV.bool y.1.2), y.2)]) ((0, (rep' vars false)), g1) (canon (fc vr (fc (VW.slen (by first | rfl | omega | (simp only [go_sem] <;> omega))) (fc vr (fc vr (fc vr (fn)))))) (sc rfl (sn))) h0 (fun y h => ?_)
    obtain ⟨⟨x1, seen⟩, g2⟩ := y
    replace h := hI (x1, seen) h
    show Vc _ _ _ _ (envOf [(1, .int .i64 vars), (5, .sl 1 rg 23 g2 0 seen.length), (24, eL (AV.int .i64) o), (25, .int .i64 (o.length : Int)), (26, .int .i64 x1)]) (stL S rg [(23, .arr 1 (List.map AV.bool seen), g2)])
    refine qZ (rZ (wZ rg (o_lss rfl rfl (nZ (qZ ?_)))))
    refine Vc.cond' rfl (fun hb2 => ?_) (fun hb2 => ?_)
    · replace h := h.1 hb2
      refine Vc.skip' ?_
      refine qZ ?_
      refine Vc.blk ?_
      refine qZ (rZ (wZ rg (o_idxL td25 sz3 (by decide) (fun _ => rfl) rfl rfl h.1 ?_)))
      replace h := h.2
      refine wZ rg (o_loadI1 sz3 ag3 rfl rfl (v := .int .i64 (at' o x1)) rfl (asZ (.int .i64 (at' o x1)) rfl (nZ (qZ ?_))))
      obtain ⟨J, h, hJ⟩ := h
      refine Vc.join' (σ := ((Bool) × (Nat))) (fun y => J y.1) (fun y => envOf [(1, .int .i64 vars), (5, .sl 1 rg 23 y.2 0 seen.length), (7, .int .i64 (at' o x1)), (24, eL (AV.int .i64) o), (25, .int .i64 (o.length : Int)), (26, .int .i64 x1), (36, .bool y.1)]) (fun y => stL S rg [(23, .arr 1 (List.map AV.bool seen), y.2)]) (fun y h => ?_) ?_
      · obtain ⟨x2, g3⟩ := y
        replace h := hJ x2 h
        show Vc _ _ _ _ (envOf [(1, .int .i64 vars), (5, .sl 1 rg 23 g3 0 seen.length), (7, .int .i64 (at' o x1)), (24, eL (AV.int .i64) o), (25, .int .i64 (o.length : Int)), (26, .int .i64 x1), (36, .bool x2)]) (stL S rg [(23, .arr 1 (List.map AV.bool seen), g3)])
        refine Vc.cond' rfl (fun hb3 => ?_) (fun hb3 => ?_)
        · replace h := h.1 hb3
          refine qZ (rZ (wZ rg (o_iface (by rw [td73]; trivial) (v := .int .i64 3) rfl (asZ (.iface 73 (.int .i64 3)) rfl (nZ ?_)))))
          refine Vc.ret' ?_
          refine res_tmp (v := .iface 73 (.int .i64 3)) rfl (res_nil ?_)
          show Gives _ (.iface 73 (.int .i64 3)) _
          exact gives_out hrg (VW.refl _) (hQ _ h)
        replace h := h.2 hb3
        refine Vc.skip' ?_
        refine qZ (qZ (rZ (mvZ (.sl 1 rg 23 g3 0 seen.length) rfl (mvZ (.int .i64 (at' o x1)) rfl (wZ rg (o_idxR0 td110 sz4 (by decide) rfl rfl h.1 ?_))))))
        have hi := h.1
        replace h := h.2
        refine wZ rg (o_loadR1 (atL (k := 23) rfl) sz4 ag4 rfl (lt_of hi (by first | rfl | omega | (simp only [go_sem] <;> omega))) rfl (v := .bool (at' seen (at' o x1))) rfl (nZ ?_))
        refine Vc.cond' rfl (fun hb4 => ?_) (fun hb4 => ?_)
        · replace h := h.1 hb4
          refine qZ (rZ (wZ rg (o_iface (by rw [td73]; trivial) (v := .int .i64 6) rfl (asZ (.iface 73 (.int .i64 6)) rfl (nZ ?_)))))
          refine Vc.ret' ?_
          refine res_tmp (v := .iface 73 (.int .i64 6)) rfl (res_nil ?_)
          show Gives _ (.iface 73 (.int .i64 6)) _
          exact gives_out hrg (VW.refl _) (hQ _ h)
        replace h := h.2 hb4
        refine Vc.skip' ?_
        refine rZ ?_
        refine mvZ (.sl 1 rg 23 g3 0 seen.length) rfl (mvZ (.int .i64 (at' o x1)) rfl (wZ rg (o_idxR0 td110 sz4 (by decide) rfl rfl h.1 ?_)))
        have hi1 := h.1
        replace h := h.2
        refine wZ rg (o_storeR1 (atL (k := 23) rfl) sz4 (by decide) (x' := true) (fun _ => rfl) rfl rfl (lt_of hi1 (by first | rfl | omega | (simp only [go_sem] <;> omega))) rfl rfl setL (nZ (rZ (wZ rg (o_addG rfl rfl h.1 ?_)))))
        replace h := h.2
        refine mvZ (.int .i64 (x1 + 1)) rfl (nZ ?_)
        exact ⟨(((x1 + 1), (set' seen (at' o x1) true)), g3), (canon (fc vr (fc (VW.slen (by first | rfl | omega | (simp only [go_sem] <;> omega))) (fc vr (fc vr (fc vr (fn)))))) (sc rfl (sn))), h⟩
      refine rZ ?_
      refine mvZ (.int .i64 (at' o x1)) rfl (wZ rg (o_lss rfl rfl (mvZ (.bool (decide ((at' o x1) < 0))) rfl ?_)))
      refine Wl.guard rfl rfl (fun hb5 => ?_) (fun hb5 => ?_)
      · replace h := h.2 hb5
        refine mvZ (.int .i64 (at' o x1)) rfl ?_
        refine Wl.guardT rfl rfl hb5 ?_
        refine mvZ (.int .i64 vars) rfl ?_
        refine Wl.guardT rfl rfl hb5 ?_
        refine wZ rg (o_geq rfl rfl (wZ rg (o_pickF rfl hb5 (v := .bool (decide (vars ≤ (at' o x1)))) rfl (nZ ?_))))
        exact ⟨((decide (vars ≤ (at' o x1))), g2), (canon (fc vr (fc vr (fc vr (fc vr (fc vr (fc vr (fc vr (fn)))))))) (sc rfl (sn))), h⟩
      replace h := h.1 hb5
      refine Wl.guardF rfl rfl hb5 rfl ?_
      refine Wl.guardF rfl rfl hb5 rfl ?_
      refine wZ rg (o_pickT rfl hb5 (v := .bool true) rfl (nZ ?_))
      exact ⟨(true, g2), (canon (fc vr (fc vr (fc vr (fc vr (fc vr (fc vr (fc vr (fn)))))))) (sc rfl (sn))), h⟩
    replace h := h.2 hb2
    refine Vc.exit' (exB_self ?_)
    refine qZ (rZ (asZ .niface rfl (nZ ?_)))
    refine Vc.ret' ?_
    refine res_tmp (v := .niface) rfl (res_nil ?_)
    show Gives _ .niface _
    exact gives_out hrg (VW.refl _) (hQ _ h)
  refine rZ ?_
  refine mvZ (.int .i64 vars) rfl (wZ rg (o_lss rfl rfl (mvZ (.bool (decide (vars < 0))) rfl ?_)))
  refine Wl.guard rfl rfl (fun hb6 => ?_) (fun hb6 => ?_)
  · replace h := h.2 hb6
    refine mvZ (.int .i64 vars) rfl ?_
    refine Wl.guardT rfl rfl hb6 ?_
    refine wZ rg (o_gtr rfl rfl (wZ rg (o_pickF rfl hb6 (v := .bool (decide (24 < vars))) rfl (asZ (.bool (decide (24 < vars))) rfl (nZ ?_)))))
    exact ⟨(decide (24 < vars)), (canon (fc vr (fc vr (fc vr (fn)))) (sn)), h⟩
  replace h := h.1 hb6
  refine Wl.guardF rfl rfl hb6 rfl ?_
  refine wZ rg (o_pickT rfl hb6 (v := .bool true) rfl (asZ (.bool true) rfl (nZ ?_)))
  exact ⟨true, (canon (fc vr (fc vr (fc vr (fn)))) (sn)), h⟩
theorem order_places_ctr {o : List Int} {Q : List Int → Prop} {S : St} {R : AV → St → Prop} (h : order_places_W o Q) (hQ : ∀ r1, Q r1 → R (eL (AV.int .i64) r1) S) :
    Ctr Try.prog 101 [eL (AV.int .i64) o] S R := by
  unfold order_places_W at h
  refine enterT Try.func101 rfl Try.ntmps101 Try.results101 (by kernel_rfl) (fun rg hrg => ?_)
  refine qZ (rZ (asZ .nil rfl (nZ (qZ (rZ (mvZ (eL (AV.int .i64) o) rfl (wZ rg (o_len td25 rfl (wZ rg (o_make td25 bts3 ok3 (enc := AV.int .i64) (z' := 0) zav3 (kk := 1) rfl rfl rfl h.1 (fun g1 => ?_)))))))))))
  replace h := h.2
  refine asZ (.sl 1 rg 8 g1 0 (Int.toNat (o.length : Int))) rfl (nZ (qZ (qZ (rZ (mvZ (eL (AV.int .i64) o) rfl (wZ rg (o_len td25 rfl (mvZ (.int .i64 0) rfl (nZ ?_)))))))))
  refine Vc.blk ?_
  obtain ⟨I, μ, h0, hI⟩ := h
  refine Vc.loop' (σ := (Int × (List Int))) (fun y => I y) (fun y => μ y) (fun y => envOf [(3, .sl 1 rg 8 g1 0 y.2.length), (9, eL (AV.int .i64) o), (10, .int .i64 (o.length : Int)), (11, .int .i64 y.1)]) (fun y => stL S rg [(8, .arr 1 (List.map (AV.int .i64) y.2), g1)]) (0, (rep' (o.length : Int) 0)) (canon (fc (VW.slen (by first | rfl | omega | (simp only [go_sem] <;> omega))) (fc vr (fc vr (fc vr (fn))))) (sc rfl (sn))) h0 (fun y h => ?_)
  obtain ⟨x, out⟩ := y
  replace h := hI (x, out) h
  show Vc _ _ _ _ (envOf [(3, .sl 1 rg 8 g1 0 out.length), (9, eL (AV.int .i64) o), (10, .int .i64 (o.length : Int)), (11, .int .i64 x)]) (stL S rg [(8, .arr 1 (List.map (AV.int .i64) out), g1)])
  refine qZ (rZ (wZ rg (o_lss rfl rfl (nZ (qZ ?_)))))
  refine Vc.cond' rfl (fun hb => ?_) (fun hb => ?_)
  · replace h := h.1 hb
    refine Vc.skip' ?_
    refine qZ ?_
    refine Vc.blk ?_
    refine qZ (rZ (mvZ (.int .i64 x) rfl (wZ rg (o_idxL td25 sz3 (by decide) (fun _ => rfl) rfl rfl h.1 ?_))))
    replace h := h.2
    refine wZ rg (o_loadI1 sz3 ag3 rfl rfl (v := .int .i64 (at' o x)) rfl (asZ (.int .i64 x) rfl (asZ (.int .i64 (at' o x)) rfl (nZ (rZ (mvZ (.sl 1 rg 8 g1 0 out.length) rfl (mvZ (.int .i64 (at' o x)) rfl (mvZ (.int .i64 x) rfl (wZ rg (o_idxR0 td25 sz3 (by decide) rfl rfl h.1 ?_))))))))))
    have hi := h.1
    replace h := h.2
    refine wZ rg (o_storeR1 (atL (k := 8) rfl) sz3 (by decide) (x' := x) (fun _ => rfl) rfl rfl (lt_of hi (by first | rfl | omega | (simp only [go_sem] <;> omega))) rfl rfl setL (nZ (rZ (wZ rg (o_addG rfl rfl h.1 ?_)))))
    replace h := h.2
    refine mvZ (.int .i64 (x + 1)) rfl (nZ ?_)
    exact ⟨((x + 1), (set' out (at' o x) x)), (canon (fc (VW.slen (by first | rfl | omega | (simp only [go_sem] <;> omega))) (fc vr (fc vr (fc vr (fn))))) (sc rfl (sn))), h⟩
  replace h := h.2 hb
  refine Vc.exit' (exB_self ?_)
  refine qZ (rZ (mvZ (.sl 1 rg 8 g1 0 out.length) rfl (asZ (.sl 1 rg 8 g1 0 out.length) rfl (nZ ?_))))
  refine Vc.ret' ?_
  refine res_tmp (v := .sl 1 rg 8 g1 0 out.length) rfl (res_nil ?_)
  show Gives _ (.sl 1 rg 8 g1 0 out.length) _
  refine gives_freeze (k := 8) (xs := List.map (AV.int .i64) out) rfl (v' := eL (AV.int .i64) out) (frz_full rfl) ?_
  exact gives_out hrg (VW.refl _) (hQ _ h)
theorem order_Positions_ctr {o : List Int} {Q : List Int → Option Int → Prop} {S : St} {R : AV → St → Prop} (h : order_Positions_W o Q) (hQ : ∀ r1 r2, Q r1 r2 → R (.tuple [eL (AV.int .i64) r1, eErr 73 r2]) S) :
    Ctr Try.prog 55 [eL (AV.int .i64) o] S R := by
  unfold order_Positions_W at h
  refine enterT Try.func55 rfl Try.ntmps55 Try.results55 (by kernel_rfl) (fun rg hrg => ?_)
  refine qZ (rZ (asZ .nil rfl (asZ .niface rfl (nZ (qZ (qZ (rZ (mvZ (eL (AV.int .i64) o) rfl (mvZ (eL (AV.int .i64) o) rfl (wZ rg (o_len td25 rfl (wZ rg (o_call (us := [eL (AV.int .i64) o, AV.int .i64 (o.length : Int)]) rfl (vl' vr (vl' vr (vn))) (order_Check_ctr h fun err h => (asZ (eErr 73 err) rfl (nZ (qZ (rZ (mvZ (eErr 73 err) rfl (wZ rg (o_isnon td32 (E := 73) rfl rfl rfl (nZ ?_))))))))))))))))))))))
  refine Vc.cond' rfl (fun hb => ?_) (fun hb => ?_)
  · replace h := h.1 hb
    refine qZ (rZ (mvZ (eErr 73 err) rfl (asZ .nil rfl (asZ (eErr 73 err) rfl (nZ ?_)))))
    refine Vc.ret' ?_
    refine res_tmp (v := .nil) rfl (res_tmp (v := eErr 73 err) rfl (res_nil ?_))
    show Gives _ (.tuple [.nil, eErr 73 err]) _
    exact gives_out hrg (VW.tupL (vl' (VW.nilL) (vl' vr (vn)))) (hQ _ _ h)
  replace h := h.2 hb
  refine Vc.skip' ?_
  refine qZ (rZ (mvZ (eL (AV.int .i64) o) rfl (wZ rg (o_call (us := [eL (AV.int .i64) o]) rfl (vl' vr (vn)) (order_places_ctr h fun r h => (asZ (eL (AV.int .i64) r) rfl (asZ .niface rfl (nZ ?_))))))))
  refine Vc.ret' ?_
  refine res_tmp (v := eL (AV.int .i64) r) rfl (res_tmp (v := .niface) rfl (res_nil ?_))
  show Gives _ (.tuple [eL (AV.int .i64) r, .niface]) _
  exact gives_out hrg (VW.tupL (vl' vr (vl' vr (vn)))) (hQ _ _ h)
end Go.Proofs.Ytiamkdpljeemkaa
