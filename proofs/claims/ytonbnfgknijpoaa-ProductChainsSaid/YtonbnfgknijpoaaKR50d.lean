/- Walks of functions. Conditions: none. -/
import Derived.Test.YtonbnfgknijpoaaWR50
import Derived.Test.YtonbnfgknijpoaaGgTy
import Derived.Test.YtonbnfgknijpoaaGd
import Derived.Test.YtonbnfgknijpoaaKBe
import Derived.Test.YtonbnfgknijpoaaKFb
import Derived.Test.YtonbnfgknijpoaaKFc
import Derived.Test.YtonbnfgknijpoaaKR50
namespace Go.Proofs.Ytonbnfgknijpoaa
open Go.Gg
set_option maxRecDepth 100000
theorem ref50_Chain_ctr {fail : List GRat} {repair : List GRat} {f : GFormula} {Q : GChain → Int → Prop} {S : St} {R : AV → St → Prop} (h : ref50_Chain_W fail repair f Q) (hQ : ∀ r1 r2, Q r1 r2 → R (.tuple [eChain r1, AV.int .i64 r2]) S) :
    Ctr Try.prog 53 [eL eRat fail, eL eRat repair, eFormula f] S R := by
  unfold ref50_Chain_W at h
  refine enterT Try.func53 rfl Try.ntmps53 Try.results53 (by kernel_rfl) (fun rg hrg => ?_)
  refine qZ (rZ ?_)
  refine wZ rg (o_box (v := eFormula f) rfl rfl (kk := 3) rfl (by decide) (fun g1 => ?_))
  refine wZ rg (o_alloc zav65 ok65 (kk := 4) rfl (fun g2 => ?_))
  refine asZ (.int .i64 0) rfl ?_
  refine nZ (qZ (qZ (rZ ?_)))
  refine mvZ (eL eRat fail) rfl ?_
  refine mvZ (eL eRat repair) rfl ?_
  refine wZ rg (o_call (us := [eL eRat fail, eL eRat repair]) rfl (vl' vr (vl' vr (vn))) (ref50_Lists_ctr h fun e h => ?_))
  refine asZ (.int .i64 e) rfl ?_
  refine nZ (qZ (rZ ?_))
  refine mvZ (.int .i64 e) rfl ?_
  refine wZ rg (o_neq rfl rfl ?_)
  refine nZ ?_
  refine Vc.cond' rfl (fun hb => ?_) (fun hb => ?_)
  · replace h := h.1 hb
    refine qZ (rZ ?_)
    refine wZ rg (o_build td65 zav65 bok65 szs65 sz65 (ps := []) rfl rfl (v := .agg [.int .i64 0, .int .i64 0, .nil, .nil]) rfl ?_)
    refine mvZ (.int .i64 e) rfl ?_
    refine wZ rg (o_storeB (atL (k := 6) rfl) sz65 (by decide) rfl (w := .agg [.int .i64 0, .int .i64 0, .nil, .nil]) rfl rfl rfl (v := .agg [.int .i64 0, .int .i64 0, .nil, .nil]) rfl setL ?_)
    refine asZ (.int .i64 e) rfl ?_
    refine nZ ?_
    refine Vc.ret' ?_
    refine res_cellA (atL (k := 6) rfl) sz65 (by decide) ag65 rfl rfl (v := .agg [.int .i64 0, .int .i64 0, .nil, .nil]) rfl ?_
    refine res_tmp (v := .int .i64 e) rfl ?_
    refine res_nil ?_
    show Gives _ (.tuple [.agg [.int .i64 0, .int .i64 0, .nil, .nil], .int .i64 e]) _
    exact gives_out hrg (VW.tupL (vl' (VW.aggL (vl' vr (vl' vr (vl' (VW.nilL) (vl' (VW.nilL) (vn)))))) (vl' vr (vn)))) (hQ _ _ h)
  replace h := h.2 hb
  refine Vc.skip' ?_
  refine qZ (qZ (rZ ?_))
  refine wZ rg (o_loadBA (atL (k := 5) rfl) sz70 (by decide) ag70 rfl rfl (v := eFormula f) rfl ?_)
  refine wZ rg (o_call (us := [eFormula f]) rfl (vl' vr (vn)) (ref08_Check_ctr h fun e1 h => ?_))
  refine asZ (.int .i64 e1) rfl ?_
  refine nZ (qZ (rZ ?_))
  refine mvZ (.int .i64 e1) rfl ?_
  refine wZ rg (o_neq rfl rfl ?_)
  refine nZ ?_
  refine Vc.cond' rfl (fun hb1 => ?_) (fun hb1 => ?_)
  · replace h := h.1 hb1
    refine qZ (rZ ?_)
    refine wZ rg (o_build td65 zav65 bok65 szs65 sz65 (ps := []) rfl rfl (v := .agg [.int .i64 0, .int .i64 0, .nil, .nil]) rfl ?_)
    refine mvZ (.int .i64 e1) rfl ?_
    refine wZ rg (o_storeB (atL (k := 6) rfl) sz65 (by decide) rfl (w := .agg [.int .i64 0, .int .i64 0, .nil, .nil]) rfl rfl rfl (v := .agg [.int .i64 0, .int .i64 0, .nil, .nil]) rfl setL ?_)
    refine asZ (.int .i64 e1) rfl ?_
    refine nZ ?_
    refine Vc.ret' ?_
    refine res_cellA (atL (k := 6) rfl) sz65 (by decide) ag65 rfl rfl (v := .agg [.int .i64 0, .int .i64 0, .nil, .nil]) rfl ?_
    refine res_tmp (v := .int .i64 e1) rfl ?_
    refine res_nil ?_
    show Gives _ (.tuple [.agg [.int .i64 0, .int .i64 0, .nil, .nil], .int .i64 e1]) _
    exact gives_out hrg (VW.tupL (vl' (VW.aggL (vl' vr (vl' vr (vl' (VW.nilL) (vl' (VW.nilL) (vn)))))) (vl' vr (vn)))) (hQ _ _ h)
  replace h := h.2 hb1
  refine Vc.skip' ?_
  refine qZ (qZ (rZ ?_))
  refine wZ rg (o_faP td70 rfl rfl (by rw [sz3]; decide) rfl ?_)
  refine wZ rg (o_loadB1 (atL (k := 5) rfl) sz3 ag3 rfl rfl (v := .int .i64 f.Vars) rfl ?_)
  refine mvZ (eL eRat fail) rfl ?_
  refine wZ rg (o_len td22 rfl ?_)
  refine wZ rg (o_neq rfl rfl ?_)
  refine nZ ?_
  refine Vc.cond' rfl (fun hb2 => ?_) (fun hb2 => ?_)
  · replace h := h.1 hb2
    refine qZ (rZ ?_)
    refine wZ rg (o_build td65 zav65 bok65 szs65 sz65 (ps := []) rfl rfl (v := .agg [.int .i64 0, .int .i64 0, .nil, .nil]) rfl ?_)
    refine wZ rg (o_storeB (atL (k := 6) rfl) sz65 (by decide) rfl (w := .agg [.int .i64 0, .int .i64 0, .nil, .nil]) rfl rfl rfl (v := .agg [.int .i64 0, .int .i64 0, .nil, .nil]) rfl setL ?_)
    refine asZ (.int .i64 11) rfl ?_
    refine nZ ?_
    refine Vc.ret' ?_
    refine res_cellA (atL (k := 6) rfl) sz65 (by decide) ag65 rfl rfl (v := .agg [.int .i64 0, .int .i64 0, .nil, .nil]) rfl ?_
    refine res_tmp (v := .int .i64 11) rfl ?_
    refine res_nil ?_
    show Gives _ (.tuple [.agg [.int .i64 0, .int .i64 0, .nil, .nil], .int .i64 11]) _
    exact gives_out hrg (VW.tupL (vl' (VW.aggL (vl' vr (vl' vr (vl' (VW.nilL) (vl' (VW.nilL) (vn)))))) (vl' vr (vn)))) (hQ _ _ h)
  replace h := h.2 hb2
  refine Vc.skip' ?_
  refine qZ (rZ ?_)
  refine mvZ (eL eRat fail) rfl ?_
  refine wZ rg (o_len td22 rfl ?_)
  refine wZ rg (o_shlG rfl rfl h.1 ?_)
  replace h := h.2
  refine asZ (.int .i64 (1 * 2 ^ (Int.toNat (fail.length : Int)))) rfl ?_
  refine nZ (qZ (rZ ?_))
  refine mvZ (.int .i64 (1 * 2 ^ (Int.toNat (fail.length : Int)))) rfl ?_
  refine wZ rg (o_build td65 zav65 bok65 szs65 sz65 (ps := [(0, .int .i64 (1 * 2 ^ (Int.toNat (fail.length : Int))))]) rfl rfl (v := .agg [.int .i64 (1 * 2 ^ (Int.toNat (fail.length : Int))), .int .i64 0, .nil, .nil]) rfl ?_)
  refine wZ rg (o_alloc zav65 ok65 (kk := 4) rfl (fun g3 => ?_))
  refine wZ rg (o_storeB (atL (k := 11) rfl) sz65 (by decide) rfl (w := .agg [.int .i64 (1 * 2 ^ (Int.toNat (fail.length : Int))), .int .i64 0, .nil, .nil]) rfl rfl rfl (v := .agg [.int .i64 (1 * 2 ^ (Int.toNat (fail.length : Int))), .int .i64 0, .nil, .nil]) rfl setL ?_)
  refine nZ (qZ (qZ (rZ ?_)))
  refine mvZ (.int .i64 (1 * 2 ^ (Int.toNat (fail.length : Int)))) rfl ?_
  refine mvZ (.int .i64 0) rfl ?_
  refine nZ ?_
  refine Vc.blk ?_
  refine Vc.matB 11 2 92 5 (b := fun g4 => .agg [.int .i64 (1 * 2 ^ (Int.toNat (fail.length : Int))), .int .i64 0, .sl 5 rg 92 g4 0 0, .nil]) rfl rfl (by decide) (by decide) rfl (fun g4 => ?_)
  refine Vc.matB 11 3 50 1 (b := fun g5 => .agg [.int .i64 (1 * 2 ^ (Int.toNat (fail.length : Int))), .int .i64 0, .sl 5 rg 92 g4 0 0, .sl 1 rg 50 g5 0 0]) rfl rfl (by decide) (by decide) rfl (fun g5 => ?_)
  obtain ⟨I, μ, h0, hI⟩ := h
  refine Vc.loop' (σ := ((Int × (List Bool) × (List GMove)) × (Nat × Nat × Nat × Nat × Nat))) (fun y => I y.1) (fun y => μ y.1) (fun y => envOf [(0, eL eRat fail), (1, eL eRat repair), (5, .ptr rg 5 y.2.1 0 0), (6, .ptr rg 6 y.2.2.1 0 0), (10, .int .i64 (1 * 2 ^ (Int.toNat (fail.length : Int)))), (11, .ptr rg 11 y.2.2.2.1 0 0), (40, .int .i64 (1 * 2 ^ (Int.toNat (fail.length : Int)))), (41, .int .i64 y.1.1)]) (fun y => stL S rg [(5, .arr 3 [eFormula f], y.2.1), (6, .arr 4 [.agg [.int .i64 0, .int .i64 0, .nil, .nil]], y.2.2.1), (11, .arr 4 [.agg [.int .i64 (1 * 2 ^ (Int.toNat (fail.length : Int))), .int .i64 0, .sl 5 rg 92 y.2.2.2.2.2 0 y.1.2.2.length, .sl 1 rg 50 y.2.2.2.2.1 0 y.1.2.1.length]], y.2.2.2.1), (50, .arr 1 (List.map AV.bool y.1.2.1), y.2.2.2.2.1), (92, .arr 5 (List.map eMove y.1.2.2), y.2.2.2.2.2)]) ((0, [], []), (g1, g2, g3, g5, g4)) (EWk.trans (EWk.ow (k := 11) (o' := .arr 4 [.agg [.int .i64 (1 * 2 ^ (Int.toNat (fail.length : Int))), .int .i64 0, .sl 5 rg 92 g4 0 ([].length), .sl 1 rg 50 g5 0 ([].length)]]) rfl (OW.one (VWL.vwc (vl' vr (vl' vr (vl' (VW.slen (by first | rfl | omega | (simp only [go_sem] <;> omega))) (vl' (VW.slen (by first | rfl | omega | (simp only [go_sem] <;> omega))) (vn)))))))) (canon (fc vr (fc vr (fc vr (fc vr (fc vr (fc vr (fc vr (fc vr (fn))))))))) (sc rfl (sc rfl (sc rfl (sc rfl (sc rfl (sn)))))))) h0 (fun y h => ?_)
  obtain ⟨⟨x, x1, x2⟩, ⟨g6, g7, g8, g9, g10⟩⟩ := y
  replace h := hI (x, x1, x2) h
  show Vc _ _ _ _ (envOf [(0, eL eRat fail), (1, eL eRat repair), (5, .ptr rg 5 g6 0 0), (6, .ptr rg 6 g7 0 0), (10, .int .i64 (1 * 2 ^ (Int.toNat (fail.length : Int)))), (11, .ptr rg 11 g8 0 0), (40, .int .i64 (1 * 2 ^ (Int.toNat (fail.length : Int)))), (41, .int .i64 x)]) (stL S rg [(5, .arr 3 [eFormula f], g6), (6, .arr 4 [.agg [.int .i64 0, .int .i64 0, .nil, .nil]], g7), (11, .arr 4 [.agg [.int .i64 (1 * 2 ^ (Int.toNat (fail.length : Int))), .int .i64 0, .sl 5 rg 92 g10 0 x2.length, .sl 1 rg 50 g9 0 x1.length]], g8), (50, .arr 1 (List.map AV.bool x1), g9), (92, .arr 5 (List.map eMove x2), g10)])
  refine qZ (rZ ?_)
  refine wZ rg (o_lss rfl rfl ?_)
  refine nZ (qZ ?_)
  refine Vc.cond' rfl (fun hb3 => ?_) (fun hb3 => ?_)
  · replace h := h.1 hb3
    refine Vc.skip' ?_
    refine qZ ?_
    refine Vc.blk ?_
    refine qZ (rZ ?_)
    refine mvZ (.int .i64 x) rfl ?_
    refine asZ (.int .i64 x) rfl ?_
    refine nZ (qZ ?_)
    obtain ⟨r, hc, h⟩ := h
    have hg := h.1
    replace h := h.2
    refine Vc.drawn' mixed rg (usOf [(4, pc (.bool r))]) (by kernel_rfl) ?_
    refine dP rfl rfl (o_faP td65 rfl rfl (by rw [sz63]; decide) rfl ?_)
    refine dL (E := ([(rg, 11)], [])) rfl rfl (by simp) (cfn) (o_loadB1 (atL (k := 11) rfl) sz63 ag63 rfl rfl (v := .sl 1 rg 50 g9 0 x1.length) rfl ?_)
    refine dL (E := ([(rg, 5)], [])) rfl rfl (by simp) (cfa (by simp [apartE]) (cfn)) (o_loadBA (atL (k := 5) rfl) sz70 (by decide) ag70 rfl rfl (v := eFormula f) rfl ?_)
    refine dP rfl rfl (o_move (v := .int .i64 x) rfl ?_)
    refine dC (vs := [eFormula f, AV.int .i64 x]) rfl (vl' vr (vl' vr (vn))) (fun _ => ref08_Value_ctr hc (fun _ hr => ⟨by rw [hr], rfl⟩)) rfl ?_
    refine dL (E := ([], [(rg, 49)])) rfl rfl (by simp) (cfo (by kernel_rfl) (cfa (by simp [apartE]) (cfn))) (o_bslice td63 ok4 zav4 (es := [.bool r]) rfl (kk := 1) rfl rfl rfl rfl rfl rfl (fun g11 => ?_))
    refine dL (E := ([(rg, 49)], [(rg, 50)])) rfl rfl (by simp) (cfo (by kernel_rfl) (cfo (by kernel_rfl) (cfo (by kernel_rfl) (cfn)))) (o_appR td63 bts4 ok4 zav4 (es := x1) (xs := [r]) (enc := AV.bool) (atL (k := 50) rfl) (by first | rfl | omega | (simp only [go_sem] <;> omega)) (view_rowE (atL (k := 49) rfl) (by first | rfl | omega | (simp only [go_sem] <;> omega))) (kk := 1) rfl rfl (fun _ => rfl) (fun _ => rfl) hg rfl (fun _ => setL) (fun g12 => ?_))
    refine dP rfl rfl (o_faP td65 rfl rfl (by rw [sz63]; decide) rfl ?_)
    refine dL (E := ([], [(rg, 11)])) rfl rfl (by simp) (cfo (by kernel_rfl) (cfo (by kernel_rfl) (cfo (by kernel_rfl) (cfo (by kernel_rfl) (cfn))))) (o_storeB (atL (k := 11) rfl) sz63 (by decide) rfl (w := .sl 1 rg 50 g12 0 ((x1 ++ [r]).length)) rfl rfl rfl (v := .agg [.int .i64 (1 * 2 ^ (Int.toNat (fail.length : Int))), .int .i64 0, .sl 5 rg 92 g10 0 x2.length, .sl 1 rg 50 g12 0 ((x1 ++ [r]).length)]) rfl setL ?_)
    refine dN ?_
    refine qZ (rZ ?_)
    refine mvZ (.int .i64 (1 * 2 ^ (Int.toNat (fail.length : Int)))) rfl ?_
    refine mvZ (.int .i64 0) rfl ?_
    refine nZ ?_
    refine Vc.blk ?_
    obtain ⟨I, μ, h0, hI⟩ := h
    refine Vc.loop' (σ := ((Int × (List GMove)) × (Nat × Nat × Nat × Nat × Nat))) (fun y => I y.1) (fun y => μ y.1) (fun y => envOf [(0, eL eRat fail), (1, eL eRat repair), (5, .ptr rg 5 y.2.1 0 0), (6, .ptr rg 6 y.2.2.1 0 0), (10, .int .i64 (1 * 2 ^ (Int.toNat (fail.length : Int)))), (11, .ptr rg 11 y.2.2.2.1 0 0), (12, .int .i64 x), (40, .int .i64 (1 * 2 ^ (Int.toNat (fail.length : Int)))), (41, .int .i64 x), (52, .int .i64 (1 * 2 ^ (Int.toNat (fail.length : Int)))), (53, .int .i64 y.1.1)]) (fun y => stL S rg [(5, .arr 3 [eFormula f], y.2.1), (6, .arr 4 [.agg [.int .i64 0, .int .i64 0, .nil, .nil]], y.2.2.1), (11, .arr 4 [.agg [.int .i64 (1 * 2 ^ (Int.toNat (fail.length : Int))), .int .i64 0, .sl 5 rg 92 y.2.2.2.2.2 0 y.1.2.length, .sl 1 rg 50 y.2.2.2.2.1 0 ((x1 ++ [r]).length)]], y.2.2.2.1), (50, .arr 1 (List.map AV.bool (x1 ++ [r])), y.2.2.2.2.1), (92, .arr 5 (List.map eMove y.1.2), y.2.2.2.2.2)]) ((0, x2), (g6, g7, g8, g12, g10)) (canon (fc vr (fc vr (fc vr (fc vr (fc vr (fc vr (fc vr (fc vr (fc vr (fc vr (fc vr (fn)))))))))))) (sc rfl (sc rfl (sc rfl (sc rfl (sc rfl (sn))))))) h0 (fun y h => ?_)
    obtain ⟨⟨x3, x4⟩, ⟨g13, g14, g15, g16, g17⟩⟩ := y
    replace h := hI (x3, x4) h
    show Vc _ _ _ _ (envOf [(0, eL eRat fail), (1, eL eRat repair), (5, .ptr rg 5 g13 0 0), (6, .ptr rg 6 g14 0 0), (10, .int .i64 (1 * 2 ^ (Int.toNat (fail.length : Int)))), (11, .ptr rg 11 g15 0 0), (12, .int .i64 x), (40, .int .i64 (1 * 2 ^ (Int.toNat (fail.length : Int)))), (41, .int .i64 x), (52, .int .i64 (1 * 2 ^ (Int.toNat (fail.length : Int)))), (53, .int .i64 x3)]) (stL S rg [(5, .arr 3 [eFormula f], g13), (6, .arr 4 [.agg [.int .i64 0, .int .i64 0, .nil, .nil]], g14), (11, .arr 4 [.agg [.int .i64 (1 * 2 ^ (Int.toNat (fail.length : Int))), .int .i64 0, .sl 5 rg 92 g17 0 x4.length, .sl 1 rg 50 g16 0 ((x1 ++ [r]).length)]], g15), (50, .arr 1 (List.map AV.bool (x1 ++ [r])), g16), (92, .arr 5 (List.map eMove x4), g17)])
    refine qZ (rZ ?_)
    refine wZ rg (o_lss rfl rfl ?_)
    refine nZ (qZ ?_)
    refine Vc.cond' rfl (fun hb4 => ?_) (fun hb4 => ?_)
    · replace h := h.1 hb4
      refine Vc.skip' ?_
      refine qZ ?_
      refine Vc.blk ?_
      refine qZ (rZ ?_)
      refine mvZ (.int .i64 x3) rfl ?_
      refine asZ (.int .i64 x3) rfl ?_
      refine nZ (qZ (rZ ?_))
      refine mvZ (eL eRat fail) rfl ?_
      refine wZ rg (o_len td22 rfl ?_)
      refine mvZ (.int .i64 0) rfl ?_
      refine nZ ?_
      refine Vc.blk ?_
      obtain ⟨I, μ, h0, hI⟩ := h
      refine Vc.loop' (σ := ((Int × (List GMove)) × (Nat × Nat × Nat × Nat × Nat))) (fun y => I y.1) (fun y => μ y.1) (fun y => envOf [(0, eL eRat fail), (1, eL eRat repair), (5, .ptr rg 5 y.2.1 0 0), (6, .ptr rg 6 y.2.2.1 0 0), (10, .int .i64 (1 * 2 ^ (Int.toNat (fail.length : Int)))), (11, .ptr rg 11 y.2.2.2.1 0 0), (12, .int .i64 x), (13, .int .i64 x3), (40, .int .i64 (1 * 2 ^ (Int.toNat (fail.length : Int)))), (41, .int .i64 x), (52, .int .i64 (1 * 2 ^ (Int.toNat (fail.length : Int)))), (53, .int .i64 x3), (57, .int .i64 (fail.length : Int)), (58, .int .i64 y.1.1)]) (fun y => stL S rg [(5, .arr 3 [eFormula f], y.2.1), (6, .arr 4 [.agg [.int .i64 0, .int .i64 0, .nil, .nil]], y.2.2.1), (11, .arr 4 [.agg [.int .i64 (1 * 2 ^ (Int.toNat (fail.length : Int))), .int .i64 0, .sl 5 rg 92 y.2.2.2.2.2 0 y.1.2.length, .sl 1 rg 50 y.2.2.2.2.1 0 ((x1 ++ [r]).length)]], y.2.2.2.1), (50, .arr 1 (List.map AV.bool (x1 ++ [r])), y.2.2.2.2.1), (92, .arr 5 (List.map eMove y.1.2), y.2.2.2.2.2)]) ((0, x4), (g13, g14, g15, g16, g17)) (canon (fc vr (fc vr (fc vr (fc vr (fc vr (fc vr (fc vr (fc vr (fc vr (fc vr (fc vr (fc vr (fc vr (fc vr (fn))))))))))))))) (sc rfl (sc rfl (sc rfl (sc rfl (sc rfl (sn))))))) h0 (fun y h => ?_)
      obtain ⟨⟨x5, x6⟩, ⟨g18, g19, g20, g21, g22⟩⟩ := y
      replace h := hI (x5, x6) h
      show Vc _ _ _ _ (envOf [(0, eL eRat fail), (1, eL eRat repair), (5, .ptr rg 5 g18 0 0), (6, .ptr rg 6 g19 0 0), (10, .int .i64 (1 * 2 ^ (Int.toNat (fail.length : Int)))), (11, .ptr rg 11 g20 0 0), (12, .int .i64 x), (13, .int .i64 x3), (40, .int .i64 (1 * 2 ^ (Int.toNat (fail.length : Int)))), (41, .int .i64 x), (52, .int .i64 (1 * 2 ^ (Int.toNat (fail.length : Int)))), (53, .int .i64 x3), (57, .int .i64 (fail.length : Int)), (58, .int .i64 x5)]) (stL S rg [(5, .arr 3 [eFormula f], g18), (6, .arr 4 [.agg [.int .i64 0, .int .i64 0, .nil, .nil]], g19), (11, .arr 4 [.agg [.int .i64 (1 * 2 ^ (Int.toNat (fail.length : Int))), .int .i64 0, .sl 5 rg 92 g22 0 x6.length, .sl 1 rg 50 g21 0 ((x1 ++ [r]).length)]], g20), (50, .arr 1 (List.map AV.bool (x1 ++ [r])), g21), (92, .arr 5 (List.map eMove x6), g22)])
      refine qZ (rZ ?_)
      refine wZ rg (o_lss rfl rfl ?_)
      refine nZ (qZ ?_)
      refine Vc.cond' rfl (fun hb5 => ?_) (fun hb5 => ?_)
      · replace h := h.1 hb5
        refine Vc.skip' ?_
        refine qZ ?_
        refine Vc.blk ?_
        refine qZ (rZ ?_)
        refine mvZ (.int .i64 x5) rfl ?_
        refine asZ (.int .i64 x5) rfl ?_
        refine nZ (qZ (rZ ?_))
        refine mvZ (eL eRat fail) rfl ?_
        refine mvZ (.int .i64 x5) rfl ?_
        refine wZ rg (o_idxL td22 sz27 (by decide) (fun _ => rfl) rfl rfl h.1 ?_)
        replace h := h.2
        refine wZ rg (o_loadIA sz27 (by decide) ag27 rfl rfl (v := eRat (at' fail x5)) rfl ?_)
        refine wZ rg (o_alloc zav27 ok27 (kk := 3) rfl (fun g23 => ?_))
        refine wZ rg (o_storeB (atL (k := 15) rfl) sz27 (by decide) rfl (w := eRat (at' fail x5)) rfl rfl rfl (v := eRat (at' fail x5)) rfl setL ?_)
        refine nZ ?_
        obtain ⟨J, h, hJ⟩ := h
        refine Vc.join' (σ := ((GRat) × (Nat × Nat × Nat × Nat × Nat × Nat))) (fun y => J y.1) (fun y => envOf [(0, eL eRat fail), (1, eL eRat repair), (5, .ptr rg 5 y.2.1 0 0), (6, .ptr rg 6 y.2.2.1 0 0), (10, .int .i64 (1 * 2 ^ (Int.toNat (fail.length : Int)))), (11, .ptr rg 11 y.2.2.2.1 0 0), (12, .int .i64 x), (13, .int .i64 x3), (14, .int .i64 x5), (15, .ptr rg 15 y.2.2.2.2.1 0 0), (40, .int .i64 (1 * 2 ^ (Int.toNat (fail.length : Int)))), (41, .int .i64 x), (52, .int .i64 (1 * 2 ^ (Int.toNat (fail.length : Int)))), (53, .int .i64 x3), (57, .int .i64 (fail.length : Int)), (58, .int .i64 x5)]) (fun y => stL S rg [(5, .arr 3 [eFormula f], y.2.1), (6, .arr 4 [.agg [.int .i64 0, .int .i64 0, .nil, .nil]], y.2.2.1), (11, .arr 4 [.agg [.int .i64 (1 * 2 ^ (Int.toNat (fail.length : Int))), .int .i64 0, .sl 5 rg 92 y.2.2.2.2.2.2 0 x6.length, .sl 1 rg 50 y.2.2.2.2.2.1 0 ((x1 ++ [r]).length)]], y.2.2.2.1), (15, .arr 3 [eRat y.1], y.2.2.2.2.1), (50, .arr 1 (List.map AV.bool (x1 ++ [r])), y.2.2.2.2.2.1), (92, .arr 5 (List.map eMove x6), y.2.2.2.2.2.2)]) (fun y h => ?_) ?_
        · obtain ⟨x7, ⟨g24, g25, g26, g27, g28, g29⟩⟩ := y
          replace h := hJ x7 h
          show Vc _ _ _ _ (envOf [(0, eL eRat fail), (1, eL eRat repair), (5, .ptr rg 5 g24 0 0), (6, .ptr rg 6 g25 0 0), (10, .int .i64 (1 * 2 ^ (Int.toNat (fail.length : Int)))), (11, .ptr rg 11 g26 0 0), (12, .int .i64 x), (13, .int .i64 x3), (14, .int .i64 x5), (15, .ptr rg 15 g27 0 0), (40, .int .i64 (1 * 2 ^ (Int.toNat (fail.length : Int)))), (41, .int .i64 x), (52, .int .i64 (1 * 2 ^ (Int.toNat (fail.length : Int)))), (53, .int .i64 x3), (57, .int .i64 (fail.length : Int)), (58, .int .i64 x5)]) (stL S rg [(5, .arr 3 [eFormula f], g24), (6, .arr 4 [.agg [.int .i64 0, .int .i64 0, .nil, .nil]], g25), (11, .arr 4 [.agg [.int .i64 (1 * 2 ^ (Int.toNat (fail.length : Int))), .int .i64 0, .sl 5 rg 92 g29 0 x6.length, .sl 1 rg 50 g28 0 ((x1 ++ [r]).length)]], g26), (15, .arr 3 [eRat x7], g27), (50, .arr 1 (List.map AV.bool (x1 ++ [r])), g28), (92, .arr 5 (List.map eMove x6), g29)])
          obtain ⟨J, h, hJ⟩ := h
          refine Vc.join' (σ := ((Bool) × (Nat × Nat × Nat × Nat × Nat × Nat))) (fun y => J y.1) (fun y => envOf [(0, eL eRat fail), (1, eL eRat repair), (5, .ptr rg 5 y.2.1 0 0), (6, .ptr rg 6 y.2.2.1 0 0), (10, .int .i64 (1 * 2 ^ (Int.toNat (fail.length : Int)))), (11, .ptr rg 11 y.2.2.2.1 0 0), (12, .int .i64 x), (13, .int .i64 x3), (15, .ptr rg 15 y.2.2.2.2.1 0 0), (40, .int .i64 (1 * 2 ^ (Int.toNat (fail.length : Int)))), (41, .int .i64 x), (52, .int .i64 (1 * 2 ^ (Int.toNat (fail.length : Int)))), (53, .int .i64 x3), (57, .int .i64 (fail.length : Int)), (58, .int .i64 x5), (84, .bool y.1)]) (fun y => stL S rg [(5, .arr 3 [eFormula f], y.2.1), (6, .arr 4 [.agg [.int .i64 0, .int .i64 0, .nil, .nil]], y.2.2.1), (11, .arr 4 [.agg [.int .i64 (1 * 2 ^ (Int.toNat (fail.length : Int))), .int .i64 0, .sl 5 rg 92 y.2.2.2.2.2.2 0 x6.length, .sl 1 rg 50 y.2.2.2.2.2.1 0 ((x1 ++ [r]).length)]], y.2.2.2.1), (15, .arr 3 [eRat x7], y.2.2.2.2.1), (50, .arr 1 (List.map AV.bool (x1 ++ [r])), y.2.2.2.2.2.1), (92, .arr 5 (List.map eMove x6), y.2.2.2.2.2.2)]) (fun y h => ?_) ?_
          · obtain ⟨x8, ⟨g30, g31, g32, g33, g34, g35⟩⟩ := y
            replace h := hJ x8 h
            show Vc _ _ _ _ (envOf [(0, eL eRat fail), (1, eL eRat repair), (5, .ptr rg 5 g30 0 0), (6, .ptr rg 6 g31 0 0), (10, .int .i64 (1 * 2 ^ (Int.toNat (fail.length : Int)))), (11, .ptr rg 11 g32 0 0), (12, .int .i64 x), (13, .int .i64 x3), (15, .ptr rg 15 g33 0 0), (40, .int .i64 (1 * 2 ^ (Int.toNat (fail.length : Int)))), (41, .int .i64 x), (52, .int .i64 (1 * 2 ^ (Int.toNat (fail.length : Int)))), (53, .int .i64 x3), (57, .int .i64 (fail.length : Int)), (58, .int .i64 x5), (84, .bool x8)]) (stL S rg [(5, .arr 3 [eFormula f], g30), (6, .arr 4 [.agg [.int .i64 0, .int .i64 0, .nil, .nil]], g31), (11, .arr 4 [.agg [.int .i64 (1 * 2 ^ (Int.toNat (fail.length : Int))), .int .i64 0, .sl 5 rg 92 g35 0 x6.length, .sl 1 rg 50 g34 0 ((x1 ++ [r]).length)]], g32), (15, .arr 3 [eRat x7], g33), (50, .arr 1 (List.map AV.bool (x1 ++ [r])), g34), (92, .arr 5 (List.map eMove x6), g35)])
            refine Vc.cond' rfl (fun hb6 => ?_) (fun hb6 => ?_)
            · replace h := h.1 hb6
              refine rZ ?_
              refine wZ rg (o_faP td65 rfl rfl (by rw [sz62]; decide) rfl ?_)
              refine wZ rg (o_loadB1 (atL (k := 11) rfl) sz62 ag62 rfl rfl (v := .sl 5 rg 92 g35 0 x6.length) rfl ?_)
              refine mvZ (.int .i64 x) rfl ?_
              refine mvZ (.int .i64 x3) rfl ?_
              refine wZ rg (o_loadBA (atL (k := 15) rfl) sz27 (by decide) ag27 rfl rfl (v := eRat x7) rfl ?_)
              refine wZ rg (o_build td72 zav72 bok72 szs72 sz72 (ps := [(0, .int .i64 x), (1, .int .i64 x3), (2, eRat x7)]) rfl rfl (v := .agg [.int .i64 x, .int .i64 x3, .bool x7.Neg, eL (AV.int .u32) x7.Num, eL (AV.int .u32) x7.Den]) rfl ?_)
              refine wZ rg (o_bslice td62 ok72 zav72 (es := [.agg [.int .i64 x, .int .i64 x3, .bool x7.Neg, eL (AV.int .u32) x7.Num, eL (AV.int .u32) x7.Den]]) rfl (kk := 5) rfl rfl rfl rfl rfl rfl (fun g36 => ?_))
              refine wZ rg (o_appR td62 bts72 ok72 zav72 (es := x6) (xs := [(⟨x, x3, (⟨x7.Neg, x7.Num, x7.Den⟩ : GRat)⟩ : GMove)]) (enc := eMove) (atL (k := 92) rfl) (by first | rfl | omega | (simp only [go_sem] <;> omega)) (view_rowE (atL (k := 91) rfl) (by first | rfl | omega | (simp only [go_sem] <;> omega))) (kk := 5) rfl rfl (fun _ => rfl) (fun _ => rfl) h.1 rfl (fun _ => setL) (fun g37 => ?_))
              replace h := h.2
              refine wZ rg (o_faP td65 rfl rfl (by rw [sz62]; decide) rfl ?_)
              refine wZ rg (o_storeB (atL (k := 11) rfl) sz62 (by decide) rfl (w := .sl 5 rg 92 g37 0 ((x6 ++ [(⟨x, x3, (⟨x7.Neg, x7.Num, x7.Den⟩ : GRat)⟩ : GMove)]).length)) rfl rfl rfl (v := .agg [.int .i64 (1 * 2 ^ (Int.toNat (fail.length : Int))), .int .i64 0, .sl 5 rg 92 g37 0 ((x6 ++ [(⟨x, x3, (⟨x7.Neg, x7.Num, x7.Den⟩ : GRat)⟩ : GMove)]).length), .sl 1 rg 50 g34 0 ((x1 ++ [r]).length)]) rfl setL ?_)
              refine nZ (rZ ?_)
              refine wZ rg (o_addG rfl rfl h.1 ?_)
              replace h := h.2
              refine mvZ (.int .i64 (x5 + 1)) rfl ?_
              refine nZ ?_
              exact ⟨(((x5 + 1), (x6 ++ [(⟨x, x3, (⟨x7.Neg, x7.Num, x7.Den⟩ : GRat)⟩ : GMove)])), (g30, g31, g32, g34, g37)), (canon (fc vr (fc vr (fc vr (fc vr (fc vr (fc vr (fc vr (fc vr (fc vr (fc vr (fc vr (fc vr (fc vr (fc vr (fn))))))))))))))) (sc rfl (sc rfl (sc rfl (sc rfl (sc rfl (sn))))))), h⟩
            replace h := h.2 hb6
            refine Vc.skip' ?_
            refine rZ ?_
            refine wZ rg (o_addG rfl rfl h.1 ?_)
            replace h := h.2
            refine mvZ (.int .i64 (x5 + 1)) rfl ?_
            refine nZ ?_
            exact ⟨(((x5 + 1), x6), (g30, g31, g32, g34, g35)), (canon (fc vr (fc vr (fc vr (fc vr (fc vr (fc vr (fc vr (fc vr (fc vr (fc vr (fc vr (fc vr (fc vr (fc vr (fn))))))))))))))) (sc rfl (sc rfl (sc rfl (sc rfl (sc rfl (sn))))))), h⟩
          refine rZ ?_
          refine mvZ (.int .i64 x3) rfl ?_
          refine mvZ (.int .i64 x) rfl ?_
          refine mvZ (.int .i64 x5) rfl ?_
          refine wZ rg (o_shlG rfl rfl h.1 ?_)
          replace h := h.2
          refine wZ rg (o_xor rfl rfl ?_)
          refine wZ rg (o_eql rfl rfl ?_)
          refine mvZ (.bool (x3 == (bits .xor .i64 x (1 * 2 ^ (Int.toNat x5))))) rfl ?_
          refine Wl.guard rfl rfl (fun hb7 => ?_) (fun hb7 => ?_)
          · replace h := h.1 hb7
            refine wZ rg (o_loadBA (atL (k := 15) rfl) sz27 (by decide) ag27 rfl rfl (v := eRat x7) rfl ?_)
            refine Wl.guardT rfl rfl hb7 ?_
            refine wZ rg (o_call (us := [eRat x7]) rfl (vl' vr (vn)) (ref02_Sign_ctr h fun r1 h => ?_))
            refine Wl.guardT rfl rfl hb7 ?_
            refine wZ rg (o_gtr rfl rfl ?_)
            refine wZ rg (o_pickT rfl hb7 (v := .bool (decide (0 < r1))) rfl ?_)
            refine nZ ?_
            exact ⟨((decide (0 < r1)), (g24, g25, g26, g27, g28, g29)), (canon (fc vr (fc vr (fc vr (fc vr (fc vr (fc vr (fc vr (fc vr (fc vr (fc vr (fc vr (fc vr (fc vr (fc vr (fc vr (fc vr (fn))))))))))))))))) (sc rfl (sc rfl (sc rfl (sc rfl (sc rfl (sc rfl (sn)))))))), h⟩
          replace h := h.2 hb7
          refine Wl.guardF rfl rfl hb7 rfl ?_
          refine Wl.guardF rfl rfl hb7 rfl ?_
          refine wZ rg (o_pickF rfl hb7 (v := .bool false) rfl ?_)
          refine nZ ?_
          exact ⟨(false, (g24, g25, g26, g27, g28, g29)), (canon (fc vr (fc vr (fc vr (fc vr (fc vr (fc vr (fc vr (fc vr (fc vr (fc vr (fc vr (fc vr (fc vr (fc vr (fc vr (fc vr (fn))))))))))))))))) (sc rfl (sc rfl (sc rfl (sc rfl (sc rfl (sc rfl (sn)))))))), h⟩
        refine qZ (rZ ?_)
        refine mvZ (.int .i64 x) rfl ?_
        refine mvZ (.int .i64 x5) rfl ?_
        refine wZ rg (o_shr rfl rfl h.1 ?_)
        replace h := h.2
        refine wZ rg (o_and rfl rfl ?_)
        refine wZ rg (o_eql rfl rfl ?_)
        refine nZ ?_
        refine Vc.cond' rfl (fun hb8 => ?_) (fun hb8 => ?_)
        · replace h := h.1 hb8
          refine rZ ?_
          refine mvZ (eL eRat repair) rfl ?_
          refine mvZ (.int .i64 x5) rfl ?_
          refine wZ rg (o_idxL td22 sz27 (by decide) (fun _ => rfl) rfl rfl h.1 ?_)
          replace h := h.2
          refine wZ rg (o_loadIA sz27 (by decide) ag27 rfl rfl (v := eRat (at' repair x5)) rfl ?_)
          refine wZ rg (o_storeB (atL (k := 15) rfl) sz27 (by decide) rfl (w := eRat (at' repair x5)) rfl rfl rfl (v := eRat (at' repair x5)) rfl setL ?_)
          refine nZ ?_
          exact ⟨((at' repair x5), (g18, g19, g20, g23, g21, g22)), (canon (fc vr (fc vr (fc vr (fc vr (fc vr (fc vr (fc vr (fc vr (fc vr (fc vr (fc vr (fc vr (fc vr (fc vr (fc vr (fc vr (fn))))))))))))))))) (sc rfl (sc rfl (sc rfl (sc rfl (sc rfl (sc rfl (sn)))))))), h⟩
        replace h := h.2 hb8
        refine Vc.skip' ?_
        exact ⟨((at' fail x5), (g18, g19, g20, g23, g21, g22)), (canon (fc vr (fc vr (fc vr (fc vr (fc vr (fc vr (fc vr (fc vr (fc vr (fc vr (fc vr (fc vr (fc vr (fc vr (fc vr (fc vr (fn))))))))))))))))) (sc rfl (sc rfl (sc rfl (sc rfl (sc rfl (sc rfl (sn)))))))), h⟩
      replace h := h.2 hb5
      refine Vc.exit' (exB_self ?_)
      refine rZ ?_
      refine wZ rg (o_addG rfl rfl h.1 ?_)
      replace h := h.2
      refine mvZ (.int .i64 (x3 + 1)) rfl ?_
      refine nZ ?_
      exact ⟨(((x3 + 1), x6), (g18, g19, g20, g21, g22)), (canon (fc vr (fc vr (fc vr (fc vr (fc vr (fc vr (fc vr (fc vr (fc vr (fc vr (fc vr (fn)))))))))))) (sc rfl (sc rfl (sc rfl (sc rfl (sc rfl (sn))))))), h⟩
    replace h := h.2 hb4
    refine Vc.exit' (exB_self ?_)
    refine rZ ?_
    refine wZ rg (o_addG rfl rfl h.1 ?_)
    replace h := h.2
    refine mvZ (.int .i64 (x + 1)) rfl ?_
    refine nZ ?_
    exact ⟨(((x + 1), (x1 ++ [r]), x4), (g13, g14, g15, g16, g17)), (canon (fc vr (fc vr (fc vr (fc vr (fc vr (fc vr (fc vr (fc vr (fn))))))))) (sc rfl (sc rfl (sc rfl (sc rfl (sc rfl (sn))))))), h⟩
  replace h := h.2 hb3
  refine Vc.exit' (exB_self ?_)
  refine qZ (rZ ?_)
  refine wZ rg (o_loadBA (atL (k := 11) rfl) sz65 (by decide) ag65 rfl rfl (v := .agg [.int .i64 (1 * 2 ^ (Int.toNat (fail.length : Int))), .int .i64 0, .sl 5 rg 92 g10 0 x2.length, .sl 1 rg 50 g9 0 x1.length]) rfl ?_)
  refine wZ rg (o_storeB (atL (k := 6) rfl) sz65 (by decide) rfl (w := .agg [.int .i64 (1 * 2 ^ (Int.toNat (fail.length : Int))), .int .i64 0, .sl 5 rg 92 g10 0 x2.length, .sl 1 rg 50 g9 0 x1.length]) rfl rfl rfl (v := .agg [.int .i64 (1 * 2 ^ (Int.toNat (fail.length : Int))), .int .i64 0, .sl 5 rg 92 g10 0 x2.length, .sl 1 rg 50 g9 0 x1.length]) rfl setL ?_)
  refine asZ (.int .i64 0) rfl ?_
  refine nZ ?_
  refine Vc.ret' ?_
  refine res_cellA (atL (k := 6) rfl) sz65 (by decide) ag65 rfl rfl (v := .agg [.int .i64 (1 * 2 ^ (Int.toNat (fail.length : Int))), .int .i64 0, .sl 5 rg 92 g10 0 x2.length, .sl 1 rg 50 g9 0 x1.length]) rfl ?_
  refine res_tmp (v := .int .i64 0) rfl ?_
  refine res_nil ?_
  show Gives _ (.tuple [.agg [.int .i64 (1 * 2 ^ (Int.toNat (fail.length : Int))), .int .i64 0, .sl 5 rg 92 g10 0 x2.length, .sl 1 rg 50 g9 0 x1.length], .int .i64 0]) _
  refine gives_freeze (k := 50) (xs := List.map AV.bool x1) rfl (v' := .tuple [.agg [.int .i64 (1 * 2 ^ (Int.toNat (fail.length : Int))), .int .i64 0, .sl 5 rg 92 g10 0 x2.length, eL AV.bool x1], .int .i64 0]) (VW.tupL (vl' (VW.aggL (vl' vr (vl' vr (vl' (frz_ne rfl) (vl' (frz_full rfl) (vn)))))) (vl' vr (vn)))) ?_
  refine gives_freeze (k := 92) (xs := List.map eMove x2) rfl (v' := .tuple [.agg [.int .i64 (1 * 2 ^ (Int.toNat (fail.length : Int))), .int .i64 0, eL eMove x2, eL AV.bool x1], .int .i64 0]) (VW.tupL (vl' (VW.aggL (vl' vr (vl' vr (vl' (frz_full rfl) (vl' vr (vn)))))) (vl' vr (vn)))) ?_
  exact gives_out hrg (VW.tupL (vl' vr (vl' vr (vn)))) (hQ _ _ h)
end Go.Proofs.Ytonbnfgknijpoaa
