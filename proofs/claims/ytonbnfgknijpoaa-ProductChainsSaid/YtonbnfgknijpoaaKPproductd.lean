/- Walks of functions. Conditions: none. -/
import Derived.Test.YtonbnfgknijpoaaWPproduct
import Derived.Test.YtonbnfgknijpoaaGgTy
import Derived.Test.YtonbnfgknijpoaaGd
import Derived.Test.YtonbnfgknijpoaaKB
import Derived.Test.YtonbnfgknijpoaaKF
import Derived.Test.YtonbnfgknijpoaaKPproduct
namespace Go.Proofs.Ytonbnfgknijpoaa
open Go.Gg
set_option maxRecDepth 100000
theorem product_Chain_ctr {fail : List GRat} {repair : List GRat} {f : GFormula} {Q : GChain → Option Int → Prop} {S : St} {R : AV → St → Prop} (h : product_Chain_W fail repair f Q) (hQ : ∀ r1 r2, Q r1 r2 → R (.tuple [eChain r1, eErr 107 r2]) S) :
    Ctr Try.prog 45 [eL eRat fail, eL eRat repair, eFormula f] S R := by
  unfold product_Chain_W at h
  refine enterT Try.func45 rfl Try.ntmps45 Try.results45 (by kernel_rfl) (fun rg hrg => ?_)
  refine qZ (rZ ?_)
  refine wZ rg (o_box (v := eFormula f) rfl rfl (kk := 3) rfl (by decide) (fun g1 => ?_))
  refine wZ rg (o_alloc zav65 ok65 (kk := 4) rfl (fun g2 => ?_))
  refine asZ .niface rfl ?_
  refine nZ (qZ (qZ (rZ ?_)))
  refine mvZ (eL eRat fail) rfl ?_
  refine mvZ (eL eRat repair) rfl ?_
  refine wZ rg (o_call (us := [eL eRat fail, eL eRat repair]) rfl (vl' vr (vl' vr (vn))) (product_check_ctr h fun e h => ?_))
  refine asZ (eErr 107 e) rfl ?_
  refine nZ (qZ (rZ ?_))
  refine mvZ (eErr 107 e) rfl ?_
  refine wZ rg (o_isnon td31 (E := 107) rfl rfl rfl ?_)
  refine nZ ?_
  refine Vc.cond' rfl (fun hb => ?_) (fun hb => ?_)
  · replace h := h.1 hb
    refine qZ (rZ ?_)
    refine wZ rg (o_build td65 zav65 bok65 szs65 sz65 (ps := []) rfl rfl (v := .agg [.int .i64 0, .int .i64 0, .nil, .nil]) rfl ?_)
    refine mvZ (eErr 107 e) rfl ?_
    refine wZ rg (o_storeB (atL (k := 6) rfl) sz65 (by decide) rfl (w := .agg [.int .i64 0, .int .i64 0, .nil, .nil]) rfl rfl rfl (v := .agg [.int .i64 0, .int .i64 0, .nil, .nil]) rfl setL ?_)
    refine asZ (eErr 107 e) rfl ?_
    refine nZ ?_
    refine Vc.ret' ?_
    refine res_cellA (atL (k := 6) rfl) sz65 (by decide) ag65 rfl rfl (v := .agg [.int .i64 0, .int .i64 0, .nil, .nil]) rfl ?_
    refine res_tmp (v := eErr 107 e) rfl ?_
    refine res_nil ?_
    show Gives _ (.tuple [.agg [.int .i64 0, .int .i64 0, .nil, .nil], eErr 107 e]) _
    exact gives_out hrg (VW.tupL (vl' (VW.aggL (vl' vr (vl' vr (vl' (VW.nilL) (vl' (VW.nilL) (vn)))))) (vl' vr (vn)))) (hQ _ _ h)
  replace h := h.2 hb
  refine Vc.skip' ?_
  refine qZ (qZ (rZ ?_))
  refine wZ rg (o_loadBA (atL (k := 5) rfl) sz70 (by decide) ag70 rfl rfl (v := eFormula f) rfl ?_)
  refine wZ rg (o_call (us := [eFormula f]) rfl (vl' vr (vn)) (formula_Check_ctr h fun e1 h => ?_))
  refine asZ (eErr 107 e1) rfl ?_
  refine nZ (qZ (rZ ?_))
  refine mvZ (eErr 107 e1) rfl ?_
  refine wZ rg (o_isnon td31 (E := 107) rfl rfl rfl ?_)
  refine nZ ?_
  refine Vc.cond' rfl (fun hb1 => ?_) (fun hb1 => ?_)
  · replace h := h.1 hb1
    refine qZ (rZ ?_)
    refine wZ rg (o_build td65 zav65 bok65 szs65 sz65 (ps := []) rfl rfl (v := .agg [.int .i64 0, .int .i64 0, .nil, .nil]) rfl ?_)
    refine mvZ (eErr 107 e1) rfl ?_
    refine wZ rg (o_storeB (atL (k := 6) rfl) sz65 (by decide) rfl (w := .agg [.int .i64 0, .int .i64 0, .nil, .nil]) rfl rfl rfl (v := .agg [.int .i64 0, .int .i64 0, .nil, .nil]) rfl setL ?_)
    refine asZ (eErr 107 e1) rfl ?_
    refine nZ ?_
    refine Vc.ret' ?_
    refine res_cellA (atL (k := 6) rfl) sz65 (by decide) ag65 rfl rfl (v := .agg [.int .i64 0, .int .i64 0, .nil, .nil]) rfl ?_
    refine res_tmp (v := eErr 107 e1) rfl ?_
    refine res_nil ?_
    show Gives _ (.tuple [.agg [.int .i64 0, .int .i64 0, .nil, .nil], eErr 107 e1]) _
    exact gives_out hrg (VW.tupL (vl' (VW.aggL (vl' vr (vl' vr (vl' (VW.nilL) (vl' (VW.nilL) (vn)))))) (vl' vr (vn)))) (hQ _ _ h)
  replace h := h.2 hb1
  refine Vc.skip' ?_
  refine qZ (rZ ?_)
  refine mvZ (eL eRat fail) rfl ?_
  refine wZ rg (o_len td22 rfl ?_)
  refine asZ (.int .i64 (fail.length : Int)) rfl ?_
  refine nZ (qZ (qZ (rZ ?_)))
  refine wZ rg (o_faP td70 rfl rfl (by rw [sz3]; decide) rfl ?_)
  refine wZ rg (o_loadB1 (atL (k := 5) rfl) sz3 ag3 rfl rfl (v := .int .i64 f.Vars) rfl ?_)
  refine mvZ (.int .i64 (fail.length : Int)) rfl ?_
  refine wZ rg (o_neq rfl rfl ?_)
  refine nZ ?_
  refine Vc.cond' rfl (fun hb2 => ?_) (fun hb2 => ?_)
  · replace h := h.1 hb2
    refine qZ (rZ ?_)
    refine wZ rg (o_build td65 zav65 bok65 szs65 sz65 (ps := []) rfl rfl (v := .agg [.int .i64 0, .int .i64 0, .nil, .nil]) rfl ?_)
    refine wZ rg (o_iface (by rw [td107]; trivial) (v := .int .i64 11) rfl ?_)
    refine wZ rg (o_storeB (atL (k := 6) rfl) sz65 (by decide) rfl (w := .agg [.int .i64 0, .int .i64 0, .nil, .nil]) rfl rfl rfl (v := .agg [.int .i64 0, .int .i64 0, .nil, .nil]) rfl setL ?_)
    refine asZ (.iface 107 (.int .i64 11)) rfl ?_
    refine nZ ?_
    refine Vc.ret' ?_
    refine res_cellA (atL (k := 6) rfl) sz65 (by decide) ag65 rfl rfl (v := .agg [.int .i64 0, .int .i64 0, .nil, .nil]) rfl ?_
    refine res_tmp (v := .iface 107 (.int .i64 11)) rfl ?_
    refine res_nil ?_
    show Gives _ (.tuple [.agg [.int .i64 0, .int .i64 0, .nil, .nil], .iface 107 (.int .i64 11)]) _
    exact gives_out hrg (VW.tupL (vl' (VW.aggL (vl' vr (vl' vr (vl' (VW.nilL) (vl' (VW.nilL) (vn)))))) (vl' vr (vn)))) (hQ _ _ h)
  replace h := h.2 hb2
  refine Vc.skip' ?_
  refine qZ (rZ ?_)
  refine mvZ (.int .i64 (fail.length : Int)) rfl ?_
  refine wZ rg (o_shlG rfl rfl h.1 ?_)
  replace h := h.2
  refine wZ rg (o_build td65 zav65 bok65 szs65 sz65 (ps := [(0, .int .i64 (1 * 2 ^ (Int.toNat (fail.length : Int))))]) rfl rfl (v := .agg [.int .i64 (1 * 2 ^ (Int.toNat (fail.length : Int))), .int .i64 0, .nil, .nil]) rfl ?_)
  refine wZ rg (o_alloc zav65 ok65 (kk := 4) rfl (fun g3 => ?_))
  refine wZ rg (o_storeB (atL (k := 11) rfl) sz65 (by decide) rfl (w := .agg [.int .i64 (1 * 2 ^ (Int.toNat (fail.length : Int))), .int .i64 0, .nil, .nil]) rfl rfl rfl (v := .agg [.int .i64 (1 * 2 ^ (Int.toNat (fail.length : Int))), .int .i64 0, .nil, .nil]) rfl setL ?_)
  refine nZ (qZ (qZ (rZ ?_)))
  refine mvZ (.int .i64 (fail.length : Int)) rfl ?_
  refine wZ rg (o_shlG rfl rfl h.1 ?_)
  replace h := h.2
  refine mvZ (.int .i64 0) rfl ?_
  refine nZ ?_
  refine Vc.blk ?_
  refine Vc.matB 11 2 96 5 (b := fun g4 => .agg [.int .i64 (1 * 2 ^ (Int.toNat (fail.length : Int))), .int .i64 0, .sl 5 rg 96 g4 0 0, .nil]) rfl rfl (by decide) (by decide) rfl (fun g4 => ?_)
  refine Vc.matB 11 3 60 1 (b := fun g5 => .agg [.int .i64 (1 * 2 ^ (Int.toNat (fail.length : Int))), .int .i64 0, .sl 5 rg 96 g4 0 0, .sl 1 rg 60 g5 0 0]) rfl rfl (by decide) (by decide) rfl (fun g5 => ?_)
  obtain ⟨I, μ, h0, hI⟩ := h
  refine Vc.loop' (σ := ((Int × (List Bool) × (List GMove)) × (Nat × Nat × Nat × Nat × Nat))) (fun y => I y.1) (fun y => μ y.1) (fun y => envOf [(0, eL eRat fail), (1, eL eRat repair), (5, .ptr rg 5 y.2.1 0 0), (6, .ptr rg 6 y.2.2.1 0 0), (10, .int .i64 (fail.length : Int)), (11, .ptr rg 11 y.2.2.2.1 0 0), (42, .int .i64 (1 * 2 ^ (Int.toNat (fail.length : Int)))), (43, .int .i64 y.1.1)]) (fun y => stL S rg [(5, .arr 3 [eFormula f], y.2.1), (6, .arr 4 [.agg [.int .i64 0, .int .i64 0, .nil, .nil]], y.2.2.1), (11, .arr 4 [.agg [.int .i64 (1 * 2 ^ (Int.toNat (fail.length : Int))), .int .i64 0, .sl 5 rg 96 y.2.2.2.2.2 0 y.1.2.2.length, .sl 1 rg 60 y.2.2.2.2.1 0 y.1.2.1.length]], y.2.2.2.1), (60, .arr 1 (List.map AV.bool y.1.2.1), y.2.2.2.2.1), (96, .arr 5 (List.map eMove y.1.2.2), y.2.2.2.2.2)]) ((0, [], []), (g1, g2, g3, g5, g4)) (EWk.trans (EWk.ow (k := 11) (o' := .arr 4 [.agg [.int .i64 (1 * 2 ^ (Int.toNat (fail.length : Int))), .int .i64 0, .sl 5 rg 96 g4 0 ([].length), .sl 1 rg 60 g5 0 ([].length)]]) rfl (OW.one (VWL.vwc (vl' vr (vl' vr (vl' (VW.slen (by first | rfl | omega | (simp only [go_sem] <;> omega))) (vl' (VW.slen (by first | rfl | omega | (simp only [go_sem] <;> omega))) (vn)))))))) (canon (fc vr (fc vr (fc vr (fc vr (fc vr (fc vr (fc vr (fc vr (fn))))))))) (sc rfl (sc rfl (sc rfl (sc rfl (sc rfl (sn)))))))) h0 (fun y h => ?_)
  obtain ⟨⟨x, x1, x2⟩, ⟨g6, g7, g8, g9, g10⟩⟩ := y
  replace h := hI (x, x1, x2) h
  show Vc _ _ _ _ (envOf [(0, eL eRat fail), (1, eL eRat repair), (5, .ptr rg 5 g6 0 0), (6, .ptr rg 6 g7 0 0), (10, .int .i64 (fail.length : Int)), (11, .ptr rg 11 g8 0 0), (42, .int .i64 (1 * 2 ^ (Int.toNat (fail.length : Int)))), (43, .int .i64 x)]) (stL S rg [(5, .arr 3 [eFormula f], g6), (6, .arr 4 [.agg [.int .i64 0, .int .i64 0, .nil, .nil]], g7), (11, .arr 4 [.agg [.int .i64 (1 * 2 ^ (Int.toNat (fail.length : Int))), .int .i64 0, .sl 5 rg 96 g10 0 x2.length, .sl 1 rg 60 g9 0 x1.length]], g8), (60, .arr 1 (List.map AV.bool x1), g9), (96, .arr 5 (List.map eMove x2), g10)])
  refine qZ (rZ ?_)
  refine wZ rg (o_lss rfl rfl ?_)
  refine nZ (qZ ?_)
  refine Vc.cond' rfl (fun hb3 => ?_) (fun hb3 => ?_)
  · replace h := h.1 hb3
    refine Vc.skip' ?_
    refine qZ ?_
    refine Vc.blk ?_
    refine qZ (rZ ?_)
    refine mvZ (.int .i64 x) rfl ?_
    refine asZ (.int .i64 x) rfl ?_
    refine nZ (qZ (rZ ?_))
    refine wZ rg (o_loadBA (atL (k := 5) rfl) sz70 (by decide) ag70 rfl rfl (v := eFormula f) rfl ?_)
    refine mvZ (.int .i64 x) rfl ?_
    refine wZ rg (o_call (us := [eFormula f, AV.int .i64 x]) rfl (vl' vr (vl' vr (vn))) (formula_Value_ctr h fun r r1 h => ?_))
    refine mvZ (.tuple [.bool r, eErr 107 r1]) rfl ?_
    refine wZ rg (o_extract (v := .bool r) rfl rfl rfl ?_)
    refine wZ rg (o_extract (v := eErr 107 r1) rfl rfl rfl ?_)
    refine asZ (.bool r) rfl ?_
    refine asZ (eErr 107 r1) rfl ?_
    refine nZ (qZ (qZ (rZ ?_)))
    refine mvZ (eErr 107 r1) rfl ?_
    refine wZ rg (o_isnon td31 (E := 107) rfl rfl rfl ?_)
    refine nZ ?_
    refine Vc.cond' rfl (fun hb4 => ?_) (fun hb4 => ?_)
    · replace h := h.1 hb4
      refine qZ (rZ ?_)
      refine wZ rg (o_build td65 zav65 bok65 szs65 sz65 (ps := []) rfl rfl (v := .agg [.int .i64 0, .int .i64 0, .nil, .nil]) rfl ?_)
      refine mvZ (eErr 107 r1) rfl ?_
      refine wZ rg (o_storeB (atL (k := 6) rfl) sz65 (by decide) rfl (w := .agg [.int .i64 0, .int .i64 0, .nil, .nil]) rfl rfl rfl (v := .agg [.int .i64 0, .int .i64 0, .nil, .nil]) rfl setL ?_)
      refine asZ (eErr 107 r1) rfl ?_
      refine nZ ?_
      refine Vc.ret' ?_
      refine res_cellA (atL (k := 6) rfl) sz65 (by decide) ag65 rfl rfl (v := .agg [.int .i64 0, .int .i64 0, .nil, .nil]) rfl ?_
      refine res_tmp (v := eErr 107 r1) rfl ?_
      refine res_nil ?_
      show Gives _ (.tuple [.agg [.int .i64 0, .int .i64 0, .nil, .nil], eErr 107 r1]) _
      exact gives_out hrg (VW.tupL (vl' (VW.aggL (vl' vr (vl' vr (vl' (VW.nilL) (vl' (VW.nilL) (vn)))))) (vl' vr (vn)))) (hQ _ _ h)
    replace h := h.2 hb4
    refine Vc.skip' ?_
    refine qZ (rZ ?_)
    refine wZ rg (o_faP td65 rfl rfl (by rw [sz63]; decide) rfl ?_)
    refine wZ rg (o_loadB1 (atL (k := 11) rfl) sz63 ag63 rfl rfl (v := .sl 1 rg 60 g9 0 x1.length) rfl ?_)
    refine mvZ (.bool r) rfl ?_
    refine wZ rg (o_bslice td63 ok4 zav4 (es := [.bool r]) rfl (kk := 1) rfl rfl rfl rfl rfl rfl (fun g11 => ?_))
    refine wZ rg (o_appR td63 bts4 ok4 zav4 (es := x1) (xs := [r]) (enc := AV.bool) (atL (k := 60) rfl) (by first | rfl | omega | (simp only [go_sem] <;> omega)) (view_rowE (atL (k := 59) rfl) (by first | rfl | omega | (simp only [go_sem] <;> omega))) (kk := 1) rfl rfl (fun _ => rfl) (fun _ => rfl) h.1 rfl (fun _ => setL) (fun g12 => ?_))
    replace h := h.2
    refine wZ rg (o_faP td65 rfl rfl (by rw [sz63]; decide) rfl ?_)
    refine wZ rg (o_storeB (atL (k := 11) rfl) sz63 (by decide) rfl (w := .sl 1 rg 60 g12 0 ((x1 ++ [r]).length)) rfl rfl rfl (v := .agg [.int .i64 (1 * 2 ^ (Int.toNat (fail.length : Int))), .int .i64 0, .sl 5 rg 96 g10 0 x2.length, .sl 1 rg 60 g12 0 ((x1 ++ [r]).length)]) rfl setL ?_)
    refine nZ (qZ (qZ (rZ ?_)))
    refine mvZ (.int .i64 (fail.length : Int)) rfl ?_
    refine wZ rg (o_subG rfl rfl h.1 ?_)
    replace h := h.2
    refine asZ (.int .i64 ((fail.length : Int) - 1)) rfl ?_
    refine nZ ?_
    refine Vc.blk ?_
    obtain ⟨I, μ, h0, hI⟩ := h
    refine Vc.loop' (σ := ((Int × (List GMove)) × (Nat × Nat × Nat × Nat × Nat))) (fun y => I y.1) (fun y => μ y.1) (fun y => envOf [(0, eL eRat fail), (1, eL eRat repair), (5, .ptr rg 5 y.2.1 0 0), (6, .ptr rg 6 y.2.2.1 0 0), (10, .int .i64 (fail.length : Int)), (11, .ptr rg 11 y.2.2.2.1 0 0), (12, .int .i64 x), (15, .int .i64 y.1.1), (42, .int .i64 (1 * 2 ^ (Int.toNat (fail.length : Int)))), (43, .int .i64 x)]) (fun y => stL S rg [(5, .arr 3 [eFormula f], y.2.1), (6, .arr 4 [.agg [.int .i64 0, .int .i64 0, .nil, .nil]], y.2.2.1), (11, .arr 4 [.agg [.int .i64 (1 * 2 ^ (Int.toNat (fail.length : Int))), .int .i64 0, .sl 5 rg 96 y.2.2.2.2.2 0 y.1.2.length, .sl 1 rg 60 y.2.2.2.2.1 0 ((x1 ++ [r]).length)]], y.2.2.2.1), (60, .arr 1 (List.map AV.bool (x1 ++ [r])), y.2.2.2.2.1), (96, .arr 5 (List.map eMove y.1.2), y.2.2.2.2.2)]) ((((fail.length : Int) - 1), x2), (g6, g7, g8, g12, g10)) (canon (fc vr (fc vr (fc vr (fc vr (fc vr (fc vr (fc vr (fc vr (fc vr (fc vr (fn))))))))))) (sc rfl (sc rfl (sc rfl (sc rfl (sc rfl (sn))))))) h0 (fun y h => ?_)
    obtain ⟨⟨i, x3⟩, ⟨g13, g14, g15, g16, g17⟩⟩ := y
    replace h := hI (i, x3) h
    show Vc _ _ _ _ (envOf [(0, eL eRat fail), (1, eL eRat repair), (5, .ptr rg 5 g13 0 0), (6, .ptr rg 6 g14 0 0), (10, .int .i64 (fail.length : Int)), (11, .ptr rg 11 g15 0 0), (12, .int .i64 x), (15, .int .i64 i), (42, .int .i64 (1 * 2 ^ (Int.toNat (fail.length : Int)))), (43, .int .i64 x)]) (stL S rg [(5, .arr 3 [eFormula f], g13), (6, .arr 4 [.agg [.int .i64 0, .int .i64 0, .nil, .nil]], g14), (11, .arr 4 [.agg [.int .i64 (1 * 2 ^ (Int.toNat (fail.length : Int))), .int .i64 0, .sl 5 rg 96 g17 0 x3.length, .sl 1 rg 60 g16 0 ((x1 ++ [r]).length)]], g15), (60, .arr 1 (List.map AV.bool (x1 ++ [r])), g16), (96, .arr 5 (List.map eMove x3), g17)])
    refine qZ (qZ (rZ ?_))
    refine mvZ (.int .i64 i) rfl ?_
    refine wZ rg (o_geq rfl rfl ?_)
    refine nZ ?_
    refine Vc.cond' rfl (fun hb5 => ?_) (fun hb5 => ?_)
    · replace h := h.1 hb5
      refine Vc.skip' ?_
      refine qZ ?_
      refine Vc.blk ?_
      obtain ⟨J, h, hJ⟩ := h
      refine Vc.join' (σ := ((Bool) × (Nat × Nat × Nat × Nat × Nat))) (fun y => J y.1) (fun y => envOf [(0, eL eRat fail), (1, eL eRat repair), (5, .ptr rg 5 y.2.1 0 0), (6, .ptr rg 6 y.2.2.1 0 0), (10, .int .i64 (fail.length : Int)), (11, .ptr rg 11 y.2.2.2.1 0 0), (12, .int .i64 x), (15, .int .i64 i), (42, .int .i64 (1 * 2 ^ (Int.toNat (fail.length : Int)))), (43, .int .i64 x), (80, .bool y.1)]) (fun y => stL S rg [(5, .arr 3 [eFormula f], y.2.1), (6, .arr 4 [.agg [.int .i64 0, .int .i64 0, .nil, .nil]], y.2.2.1), (11, .arr 4 [.agg [.int .i64 (1 * 2 ^ (Int.toNat (fail.length : Int))), .int .i64 0, .sl 5 rg 96 y.2.2.2.2.2 0 x3.length, .sl 1 rg 60 y.2.2.2.2.1 0 ((x1 ++ [r]).length)]], y.2.2.2.1), (60, .arr 1 (List.map AV.bool (x1 ++ [r])), y.2.2.2.2.1), (96, .arr 5 (List.map eMove x3), y.2.2.2.2.2)]) (fun y h => ?_) ?_
      · obtain ⟨x4, ⟨g18, g19, g20, g21, g22⟩⟩ := y
        replace h := hJ x4 h
        show Vc _ _ _ _ (envOf [(0, eL eRat fail), (1, eL eRat repair), (5, .ptr rg 5 g18 0 0), (6, .ptr rg 6 g19 0 0), (10, .int .i64 (fail.length : Int)), (11, .ptr rg 11 g20 0 0), (12, .int .i64 x), (15, .int .i64 i), (42, .int .i64 (1 * 2 ^ (Int.toNat (fail.length : Int)))), (43, .int .i64 x), (80, .bool x4)]) (stL S rg [(5, .arr 3 [eFormula f], g18), (6, .arr 4 [.agg [.int .i64 0, .int .i64 0, .nil, .nil]], g19), (11, .arr 4 [.agg [.int .i64 (1 * 2 ^ (Int.toNat (fail.length : Int))), .int .i64 0, .sl 5 rg 96 g22 0 x3.length, .sl 1 rg 60 g21 0 ((x1 ++ [r]).length)]], g20), (60, .arr 1 (List.map AV.bool (x1 ++ [r])), g21), (96, .arr 5 (List.map eMove x3), g22)])
        refine Vc.cond' rfl (fun hb6 => ?_) (fun hb6 => ?_)
        · replace h := h.1 hb6
          have hg := h.1
          replace h := h.2
          have hg1 := h.1
          replace h := h.2
          obtain ⟨r2, hc, h⟩ := h
          have hg2 := h.1
          replace h := h.2
          refine Vc.drawn' mixed rg (usOf [(12, pc (eRat r2))]) (by kernel_rfl) ?_
          refine dP rfl rfl (o_faP td65 rfl rfl (by rw [sz62]; decide) rfl ?_)
          refine dL (E := ([(rg, 11)], [])) rfl rfl (by simp) (cfn) (o_loadB1 (atL (k := 11) rfl) sz62 ag62 rfl rfl (v := .sl 5 rg 96 g22 0 x3.length) rfl ?_)
          refine dP rfl rfl (o_move (v := .int .i64 x) rfl ?_)
          refine dP rfl rfl (o_move (v := .int .i64 x) rfl ?_)
          refine dP rfl rfl (o_move (v := .int .i64 i) rfl ?_)
          refine dP rfl rfl (o_shlG rfl rfl hg ?_)
          refine dP rfl rfl (o_andNot rfl rfl ?_)
          refine dP rfl rfl (o_move (v := eL eRat repair) rfl ?_)
          refine dP rfl rfl (o_move (v := .int .i64 i) rfl ?_)
          refine dP rfl rfl (o_idxL td22 sz27 (by decide) (fun _ => rfl) rfl rfl hg1 ?_)
          refine dP rfl rfl (o_loadIA sz27 (by decide) ag27 rfl rfl (v := eRat (at' repair i)) rfl ?_)
          refine dP rfl rfl (o_build td27 zav27 bok27 szs27 sz27 (ps := []) rfl rfl (v := .agg [.bool false, .nil, .nil]) rfl ?_)
          refine dC (vs := [eRat (at' repair i), eRat (⟨false, [], []⟩ : GRat)]) rfl (vl' vr (vl' (VW.aggL (vl' vr (vl' (VW.nilL) (vl' (VW.nilL) (vn))))) (vn))) (fun _ => rational_Add_ctr hc (fun _ hr => ⟨by rw [hr], rfl⟩)) rfl ?_
          refine dP rfl rfl (o_build td72 zav72 bok72 szs72 sz72 (ps := [(0, .int .i64 x), (1, .int .i64 (bits .andNot .i64 x (1 * 2 ^ (Int.toNat i)))), (2, eRat r2)]) rfl rfl (v := .agg [.int .i64 x, .int .i64 (bits .andNot .i64 x (1 * 2 ^ (Int.toNat i))), .bool r2.Neg, eL (AV.int .u32) r2.Num, eL (AV.int .u32) r2.Den]) rfl ?_)
          refine dL (E := ([], [(rg, 95)])) rfl rfl (by simp) (cfa (by simp [apartE]) (cfn)) (o_bslice td62 ok72 zav72 (es := [.agg [.int .i64 x, .int .i64 (bits .andNot .i64 x (1 * 2 ^ (Int.toNat i))), .bool r2.Neg, eL (AV.int .u32) r2.Num, eL (AV.int .u32) r2.Den]]) rfl (kk := 5) rfl rfl rfl rfl rfl rfl (fun g23 => ?_))
          refine dL (E := ([(rg, 95)], [(rg, 96)])) rfl rfl (by simp) (cfo (by kernel_rfl) (cfo (by kernel_rfl) (cfn))) (o_appR td62 bts72 ok72 zav72 (es := x3) (xs := [(⟨x, (bits .andNot .i64 x (1 * 2 ^ (Int.toNat i))), (⟨r2.Neg, r2.Num, r2.Den⟩ : GRat)⟩ : GMove)]) (enc := eMove) (atL (k := 96) rfl) (by first | rfl | omega | (simp only [go_sem] <;> omega)) (view_rowE (atL (k := 95) rfl) (by first | rfl | omega | (simp only [go_sem] <;> omega))) (kk := 5) rfl rfl (fun _ => rfl) (fun _ => rfl) hg2 rfl (fun _ => setL) (fun g24 => ?_))
          refine dP rfl rfl (o_faP td65 rfl rfl (by rw [sz62]; decide) rfl ?_)
          refine dL (E := ([], [(rg, 11)])) rfl rfl (by simp) (cfo (by kernel_rfl) (cfo (by kernel_rfl) (cfo (by kernel_rfl) (cfn)))) (o_storeB (atL (k := 11) rfl) sz62 (by decide) rfl (w := .sl 5 rg 96 g24 0 ((x3 ++ [(⟨x, (bits .andNot .i64 x (1 * 2 ^ (Int.toNat i))), (⟨r2.Neg, r2.Num, r2.Den⟩ : GRat)⟩ : GMove)]).length)) rfl rfl rfl (v := .agg [.int .i64 (1 * 2 ^ (Int.toNat (fail.length : Int))), .int .i64 0, .sl 5 rg 96 g24 0 ((x3 ++ [(⟨x, (bits .andNot .i64 x (1 * 2 ^ (Int.toNat i))), (⟨r2.Neg, r2.Num, r2.Den⟩ : GRat)⟩ : GMove)]).length), .sl 1 rg 60 g21 0 ((x1 ++ [r]).length)]) rfl setL ?_)
          refine dN ?_
          refine rZ ?_
          refine mvZ (.int .i64 i) rfl ?_
          refine wZ rg (o_subG rfl rfl h.1 ?_)
          replace h := h.2
          refine asZ (.int .i64 (i - 1)) rfl ?_
          refine nZ ?_
          exact ⟨(((i - 1), (x3 ++ [(⟨x, (bits .andNot .i64 x (1 * 2 ^ (Int.toNat i))), (⟨r2.Neg, r2.Num, r2.Den⟩ : GRat)⟩ : GMove)])), (g18, g19, g20, g21, g24)), (canon (fc vr (fc vr (fc vr (fc vr (fc vr (fc vr (fc vr (fc vr (fc vr (fc vr (fn))))))))))) (sc rfl (sc rfl (sc rfl (sc rfl (sc rfl (sn))))))), h⟩
        replace h := h.2 hb6
        refine Vc.skip' ?_
        refine rZ ?_
        refine mvZ (.int .i64 i) rfl ?_
        refine wZ rg (o_subG rfl rfl h.1 ?_)
        replace h := h.2
        refine asZ (.int .i64 (i - 1)) rfl ?_
        refine nZ ?_
        exact ⟨(((i - 1), x3), (g18, g19, g20, g21, g22)), (canon (fc vr (fc vr (fc vr (fc vr (fc vr (fc vr (fc vr (fc vr (fc vr (fc vr (fn))))))))))) (sc rfl (sc rfl (sc rfl (sc rfl (sc rfl (sn))))))), h⟩
      refine rZ ?_
      refine mvZ (.int .i64 x) rfl ?_
      refine mvZ (.int .i64 i) rfl ?_
      refine wZ rg (o_shr rfl rfl h.1 ?_)
      replace h := h.2
      refine wZ rg (o_and rfl rfl ?_)
      refine wZ rg (o_eql rfl rfl ?_)
      refine mvZ (.bool ((bits .and .i64 (x / 2 ^ (Int.toNat i)) 1) == 1)) rfl ?_
      refine Wl.guard rfl rfl (fun hb7 => ?_) (fun hb7 => ?_)
      · replace h := h.1 hb7
        refine mvZ (eL eRat repair) rfl ?_
        refine Wl.guardT rfl rfl hb7 ?_
        refine mvZ (.int .i64 i) rfl ?_
        refine Wl.guardT rfl rfl hb7 ?_
        refine wZ rg (o_idxL td22 sz27 (by decide) (fun _ => rfl) rfl rfl h.1 ?_)
        replace h := h.2
        refine Wl.guardT rfl rfl hb7 ?_
        refine wZ rg (o_loadIA sz27 (by decide) ag27 rfl rfl (v := eRat (at' repair i)) rfl ?_)
        refine Wl.guardT rfl rfl hb7 ?_
        refine wZ rg (o_call (us := [eRat (at' repair i)]) rfl (vl' vr (vn)) (rational_Sign_ctr h fun r3 h => ?_))
        refine Wl.guardT rfl rfl hb7 ?_
        refine wZ rg (o_gtr rfl rfl ?_)
        refine wZ rg (o_pickT rfl hb7 (v := .bool (decide (0 < r3))) rfl ?_)
        refine nZ ?_
        exact ⟨((decide (0 < r3)), (g13, g14, g15, g16, g17)), (canon (fc vr (fc vr (fc vr (fc vr (fc vr (fc vr (fc vr (fc vr (fc vr (fc vr (fc vr (fn)))))))))))) (sc rfl (sc rfl (sc rfl (sc rfl (sc rfl (sn))))))), h⟩
      replace h := h.2 hb7
      refine Wl.guardF rfl rfl hb7 rfl ?_
      refine Wl.guardF rfl rfl hb7 rfl ?_
      refine Wl.guardF rfl rfl hb7 rfl ?_
      refine Wl.guardF rfl rfl hb7 rfl ?_
      refine Wl.guardF rfl rfl hb7 rfl ?_
      refine wZ rg (o_pickF rfl hb7 (v := .bool false) rfl ?_)
      refine nZ ?_
      exact ⟨(false, (g13, g14, g15, g16, g17)), (canon (fc vr (fc vr (fc vr (fc vr (fc vr (fc vr (fc vr (fc vr (fc vr (fc vr (fc vr (fn)))))))))))) (sc rfl (sc rfl (sc rfl (sc rfl (sc rfl (sn))))))), h⟩
    replace h := h.2 hb5
    refine Vc.exit' (exB_self ?_)
    refine qZ (rZ ?_)
    refine mvZ (.int .i64 (fail.length : Int)) rfl ?_
    refine mvZ (.int .i64 0) rfl ?_
    refine nZ ?_
    refine Vc.blk ?_
    obtain ⟨I, μ, h0, hI⟩ := h
    refine Vc.loop' (σ := ((Int × (List GMove)) × (Nat × Nat × Nat × Nat × Nat))) (fun y => I y.1) (fun y => μ y.1) (fun y => envOf [(0, eL eRat fail), (1, eL eRat repair), (5, .ptr rg 5 y.2.1 0 0), (6, .ptr rg 6 y.2.2.1 0 0), (10, .int .i64 (fail.length : Int)), (11, .ptr rg 11 y.2.2.2.1 0 0), (12, .int .i64 x), (42, .int .i64 (1 * 2 ^ (Int.toNat (fail.length : Int)))), (43, .int .i64 x), (98, .int .i64 (fail.length : Int)), (99, .int .i64 y.1.1)]) (fun y => stL S rg [(5, .arr 3 [eFormula f], y.2.1), (6, .arr 4 [.agg [.int .i64 0, .int .i64 0, .nil, .nil]], y.2.2.1), (11, .arr 4 [.agg [.int .i64 (1 * 2 ^ (Int.toNat (fail.length : Int))), .int .i64 0, .sl 5 rg 96 y.2.2.2.2.2 0 y.1.2.length, .sl 1 rg 60 y.2.2.2.2.1 0 ((x1 ++ [r]).length)]], y.2.2.2.1), (60, .arr 1 (List.map AV.bool (x1 ++ [r])), y.2.2.2.2.1), (96, .arr 5 (List.map eMove y.1.2), y.2.2.2.2.2)]) ((0, x3), (g13, g14, g15, g16, g17)) (canon (fc vr (fc vr (fc vr (fc vr (fc vr (fc vr (fc vr (fc vr (fc vr (fc vr (fc vr (fn)))))))))))) (sc rfl (sc rfl (sc rfl (sc rfl (sc rfl (sn))))))) h0 (fun y h => ?_)
    obtain ⟨⟨x5, x6⟩, ⟨g25, g26, g27, g28, g29⟩⟩ := y
    replace h := hI (x5, x6) h
    show Vc _ _ _ _ (envOf [(0, eL eRat fail), (1, eL eRat repair), (5, .ptr rg 5 g25 0 0), (6, .ptr rg 6 g26 0 0), (10, .int .i64 (fail.length : Int)), (11, .ptr rg 11 g27 0 0), (12, .int .i64 x), (42, .int .i64 (1 * 2 ^ (Int.toNat (fail.length : Int)))), (43, .int .i64 x), (98, .int .i64 (fail.length : Int)), (99, .int .i64 x5)]) (stL S rg [(5, .arr 3 [eFormula f], g25), (6, .arr 4 [.agg [.int .i64 0, .int .i64 0, .nil, .nil]], g26), (11, .arr 4 [.agg [.int .i64 (1 * 2 ^ (Int.toNat (fail.length : Int))), .int .i64 0, .sl 5 rg 96 g29 0 x6.length, .sl 1 rg 60 g28 0 ((x1 ++ [r]).length)]], g27), (60, .arr 1 (List.map AV.bool (x1 ++ [r])), g28), (96, .arr 5 (List.map eMove x6), g29)])
    refine qZ (rZ ?_)
    refine wZ rg (o_lss rfl rfl ?_)
    refine nZ (qZ ?_)
    refine Vc.cond' rfl (fun hb8 => ?_) (fun hb8 => ?_)
    · replace h := h.1 hb8
      refine Vc.skip' ?_
      refine qZ ?_
      refine Vc.blk ?_
      refine qZ (rZ ?_)
      refine mvZ (.int .i64 x5) rfl ?_
      refine asZ (.int .i64 x5) rfl ?_
      refine nZ ?_
      obtain ⟨J, h, hJ⟩ := h
      refine Vc.join' (σ := ((Bool) × (Nat × Nat × Nat × Nat × Nat))) (fun y => J y.1) (fun y => envOf [(0, eL eRat fail), (1, eL eRat repair), (5, .ptr rg 5 y.2.1 0 0), (6, .ptr rg 6 y.2.2.1 0 0), (10, .int .i64 (fail.length : Int)), (11, .ptr rg 11 y.2.2.2.1 0 0), (12, .int .i64 x), (16, .int .i64 x5), (42, .int .i64 (1 * 2 ^ (Int.toNat (fail.length : Int)))), (43, .int .i64 x), (98, .int .i64 (fail.length : Int)), (99, .int .i64 x5), (114, .bool y.1)]) (fun y => stL S rg [(5, .arr 3 [eFormula f], y.2.1), (6, .arr 4 [.agg [.int .i64 0, .int .i64 0, .nil, .nil]], y.2.2.1), (11, .arr 4 [.agg [.int .i64 (1 * 2 ^ (Int.toNat (fail.length : Int))), .int .i64 0, .sl 5 rg 96 y.2.2.2.2.2 0 x6.length, .sl 1 rg 60 y.2.2.2.2.1 0 ((x1 ++ [r]).length)]], y.2.2.2.1), (60, .arr 1 (List.map AV.bool (x1 ++ [r])), y.2.2.2.2.1), (96, .arr 5 (List.map eMove x6), y.2.2.2.2.2)]) (fun y h => ?_) ?_
      · obtain ⟨x7, ⟨g30, g31, g32, g33, g34⟩⟩ := y
        replace h := hJ x7 h
        show Vc _ _ _ _ (envOf [(0, eL eRat fail), (1, eL eRat repair), (5, .ptr rg 5 g30 0 0), (6, .ptr rg 6 g31 0 0), (10, .int .i64 (fail.length : Int)), (11, .ptr rg 11 g32 0 0), (12, .int .i64 x), (16, .int .i64 x5), (42, .int .i64 (1 * 2 ^ (Int.toNat (fail.length : Int)))), (43, .int .i64 x), (98, .int .i64 (fail.length : Int)), (99, .int .i64 x5), (114, .bool x7)]) (stL S rg [(5, .arr 3 [eFormula f], g30), (6, .arr 4 [.agg [.int .i64 0, .int .i64 0, .nil, .nil]], g31), (11, .arr 4 [.agg [.int .i64 (1 * 2 ^ (Int.toNat (fail.length : Int))), .int .i64 0, .sl 5 rg 96 g34 0 x6.length, .sl 1 rg 60 g33 0 ((x1 ++ [r]).length)]], g32), (60, .arr 1 (List.map AV.bool (x1 ++ [r])), g33), (96, .arr 5 (List.map eMove x6), g34)])
        refine Vc.cond' rfl (fun hb9 => ?_) (fun hb9 => ?_)
        · replace h := h.1 hb9
          have hg3 := h.1
          replace h := h.2
          have hg4 := h.1
          replace h := h.2
          obtain ⟨r4, hc1, h⟩ := h
          have hg5 := h.1
          replace h := h.2
          refine Vc.drawn' mixed rg (usOf [(12, pc (eRat r4))]) (by kernel_rfl) ?_
          refine dP rfl rfl (o_faP td65 rfl rfl (by rw [sz62]; decide) rfl ?_)
          refine dL (E := ([(rg, 11)], [])) rfl rfl (by simp) (cfn) (o_loadB1 (atL (k := 11) rfl) sz62 ag62 rfl rfl (v := .sl 5 rg 96 g34 0 x6.length) rfl ?_)
          refine dP rfl rfl (o_move (v := .int .i64 x) rfl ?_)
          refine dP rfl rfl (o_move (v := .int .i64 x) rfl ?_)
          refine dP rfl rfl (o_move (v := .int .i64 x5) rfl ?_)
          refine dP rfl rfl (o_shlG rfl rfl hg3 ?_)
          refine dP rfl rfl (o_or rfl rfl ?_)
          refine dP rfl rfl (o_move (v := eL eRat fail) rfl ?_)
          refine dP rfl rfl (o_move (v := .int .i64 x5) rfl ?_)
          refine dP rfl rfl (o_idxL td22 sz27 (by decide) (fun _ => rfl) rfl rfl hg4 ?_)
          refine dP rfl rfl (o_loadIA sz27 (by decide) ag27 rfl rfl (v := eRat (at' fail x5)) rfl ?_)
          refine dP rfl rfl (o_build td27 zav27 bok27 szs27 sz27 (ps := []) rfl rfl (v := .agg [.bool false, .nil, .nil]) rfl ?_)
          refine dC (vs := [eRat (at' fail x5), eRat (⟨false, [], []⟩ : GRat)]) rfl (vl' vr (vl' (VW.aggL (vl' vr (vl' (VW.nilL) (vl' (VW.nilL) (vn))))) (vn))) (fun _ => rational_Add_ctr hc1 (fun _ hr => ⟨by rw [hr], rfl⟩)) rfl ?_
          refine dP rfl rfl (o_build td72 zav72 bok72 szs72 sz72 (ps := [(0, .int .i64 x), (1, .int .i64 (bits .or .i64 x (1 * 2 ^ (Int.toNat x5)))), (2, eRat r4)]) rfl rfl (v := .agg [.int .i64 x, .int .i64 (bits .or .i64 x (1 * 2 ^ (Int.toNat x5))), .bool r4.Neg, eL (AV.int .u32) r4.Num, eL (AV.int .u32) r4.Den]) rfl ?_)
          refine dL (E := ([], [(rg, 129)])) rfl rfl (by simp) (cfa (by simp [apartE]) (cfn)) (o_bslice td62 ok72 zav72 (es := [.agg [.int .i64 x, .int .i64 (bits .or .i64 x (1 * 2 ^ (Int.toNat x5))), .bool r4.Neg, eL (AV.int .u32) r4.Num, eL (AV.int .u32) r4.Den]]) rfl (kk := 5) rfl rfl rfl rfl rfl rfl (fun g35 => ?_))
          refine dL (E := ([(rg, 129)], [(rg, 96)])) rfl rfl (by simp) (cfo (by kernel_rfl) (cfo (by kernel_rfl) (cfn))) (o_appR td62 bts72 ok72 zav72 (es := x6) (xs := [(⟨x, (bits .or .i64 x (1 * 2 ^ (Int.toNat x5))), (⟨r4.Neg, r4.Num, r4.Den⟩ : GRat)⟩ : GMove)]) (enc := eMove) (atL (k := 96) rfl) (by first | rfl | omega | (simp only [go_sem] <;> omega)) (view_rowE (atL (k := 129) rfl) (by first | rfl | omega | (simp only [go_sem] <;> omega))) (kk := 5) rfl rfl (fun _ => rfl) (fun _ => rfl) hg5 rfl (fun _ => setL) (fun g36 => ?_))
          refine dP rfl rfl (o_faP td65 rfl rfl (by rw [sz62]; decide) rfl ?_)
          refine dL (E := ([], [(rg, 11)])) rfl rfl (by simp) (cfo (by kernel_rfl) (cfo (by kernel_rfl) (cfo (by kernel_rfl) (cfn)))) (o_storeB (atL (k := 11) rfl) sz62 (by decide) rfl (w := .sl 5 rg 96 g36 0 ((x6 ++ [(⟨x, (bits .or .i64 x (1 * 2 ^ (Int.toNat x5))), (⟨r4.Neg, r4.Num, r4.Den⟩ : GRat)⟩ : GMove)]).length)) rfl rfl rfl (v := .agg [.int .i64 (1 * 2 ^ (Int.toNat (fail.length : Int))), .int .i64 0, .sl 5 rg 96 g36 0 ((x6 ++ [(⟨x, (bits .or .i64 x (1 * 2 ^ (Int.toNat x5))), (⟨r4.Neg, r4.Num, r4.Den⟩ : GRat)⟩ : GMove)]).length), .sl 1 rg 60 g33 0 ((x1 ++ [r]).length)]) rfl setL ?_)
          refine dN ?_
          refine rZ ?_
          refine wZ rg (o_addG rfl rfl h.1 ?_)
          replace h := h.2
          refine mvZ (.int .i64 (x5 + 1)) rfl ?_
          refine nZ ?_
          exact ⟨(((x5 + 1), (x6 ++ [(⟨x, (bits .or .i64 x (1 * 2 ^ (Int.toNat x5))), (⟨r4.Neg, r4.Num, r4.Den⟩ : GRat)⟩ : GMove)])), (g30, g31, g32, g33, g36)), (canon (fc vr (fc vr (fc vr (fc vr (fc vr (fc vr (fc vr (fc vr (fc vr (fc vr (fc vr (fn)))))))))))) (sc rfl (sc rfl (sc rfl (sc rfl (sc rfl (sn))))))), h⟩
        replace h := h.2 hb9
        refine Vc.skip' ?_
        refine rZ ?_
        refine wZ rg (o_addG rfl rfl h.1 ?_)
        replace h := h.2
        refine mvZ (.int .i64 (x5 + 1)) rfl ?_
        refine nZ ?_
        exact ⟨(((x5 + 1), x6), (g30, g31, g32, g33, g34)), (canon (fc vr (fc vr (fc vr (fc vr (fc vr (fc vr (fc vr (fc vr (fc vr (fc vr (fc vr (fn)))))))))))) (sc rfl (sc rfl (sc rfl (sc rfl (sc rfl (sn))))))), h⟩
      refine rZ ?_
      refine mvZ (.int .i64 x) rfl ?_
      refine mvZ (.int .i64 x5) rfl ?_
      refine wZ rg (o_shr rfl rfl h.1 ?_)
      replace h := h.2
      refine wZ rg (o_and rfl rfl ?_)
      refine wZ rg (o_eql rfl rfl ?_)
      refine mvZ (.bool ((bits .and .i64 (x / 2 ^ (Int.toNat x5)) 1) == 0)) rfl ?_
      refine Wl.guard rfl rfl (fun hb10 => ?_) (fun hb10 => ?_)
      · replace h := h.1 hb10
        refine mvZ (eL eRat fail) rfl ?_
        refine Wl.guardT rfl rfl hb10 ?_
        refine mvZ (.int .i64 x5) rfl ?_
        refine Wl.guardT rfl rfl hb10 ?_
        refine wZ rg (o_idxL td22 sz27 (by decide) (fun _ => rfl) rfl rfl h.1 ?_)
        replace h := h.2
        refine Wl.guardT rfl rfl hb10 ?_
        refine wZ rg (o_loadIA sz27 (by decide) ag27 rfl rfl (v := eRat (at' fail x5)) rfl ?_)
        refine Wl.guardT rfl rfl hb10 ?_
        refine wZ rg (o_call (us := [eRat (at' fail x5)]) rfl (vl' vr (vn)) (rational_Sign_ctr h fun r5 h => ?_))
        refine Wl.guardT rfl rfl hb10 ?_
        refine wZ rg (o_gtr rfl rfl ?_)
        refine wZ rg (o_pickT rfl hb10 (v := .bool (decide (0 < r5))) rfl ?_)
        refine nZ ?_
        exact ⟨((decide (0 < r5)), (g25, g26, g27, g28, g29)), (canon (fc vr (fc vr (fc vr (fc vr (fc vr (fc vr (fc vr (fc vr (fc vr (fc vr (fc vr (fc vr (fc vr (fn)))))))))))))) (sc rfl (sc rfl (sc rfl (sc rfl (sc rfl (sn))))))), h⟩
      replace h := h.2 hb10
      refine Wl.guardF rfl rfl hb10 rfl ?_
      refine Wl.guardF rfl rfl hb10 rfl ?_
      refine Wl.guardF rfl rfl hb10 rfl ?_
      refine Wl.guardF rfl rfl hb10 rfl ?_
      refine Wl.guardF rfl rfl hb10 rfl ?_
      refine wZ rg (o_pickF rfl hb10 (v := .bool false) rfl ?_)
      refine nZ ?_
      exact ⟨(false, (g25, g26, g27, g28, g29)), (canon (fc vr (fc vr (fc vr (fc vr (fc vr (fc vr (fc vr (fc vr (fc vr (fc vr (fc vr (fc vr (fc vr (fn)))))))))))))) (sc rfl (sc rfl (sc rfl (sc rfl (sc rfl (sn))))))), h⟩
    replace h := h.2 hb8
    refine Vc.exit' (exB_self ?_)
    refine rZ ?_
    refine wZ rg (o_addG rfl rfl h.1 ?_)
    replace h := h.2
    refine mvZ (.int .i64 (x + 1)) rfl ?_
    refine nZ ?_
    exact ⟨(((x + 1), (x1 ++ [r]), x6), (g25, g26, g27, g28, g29)), (canon (fc vr (fc vr (fc vr (fc vr (fc vr (fc vr (fc vr (fc vr (fn))))))))) (sc rfl (sc rfl (sc rfl (sc rfl (sc rfl (sn))))))), h⟩
  replace h := h.2 hb3
  refine Vc.exit' (exB_self ?_)
  refine qZ (rZ ?_)
  refine wZ rg (o_loadBA (atL (k := 11) rfl) sz65 (by decide) ag65 rfl rfl (v := .agg [.int .i64 (1 * 2 ^ (Int.toNat (fail.length : Int))), .int .i64 0, .sl 5 rg 96 g10 0 x2.length, .sl 1 rg 60 g9 0 x1.length]) rfl ?_)
  refine wZ rg (o_storeB (atL (k := 6) rfl) sz65 (by decide) rfl (w := .agg [.int .i64 (1 * 2 ^ (Int.toNat (fail.length : Int))), .int .i64 0, .sl 5 rg 96 g10 0 x2.length, .sl 1 rg 60 g9 0 x1.length]) rfl rfl rfl (v := .agg [.int .i64 (1 * 2 ^ (Int.toNat (fail.length : Int))), .int .i64 0, .sl 5 rg 96 g10 0 x2.length, .sl 1 rg 60 g9 0 x1.length]) rfl setL ?_)
  refine asZ .niface rfl ?_
  refine nZ ?_
  refine Vc.ret' ?_
  refine res_cellA (atL (k := 6) rfl) sz65 (by decide) ag65 rfl rfl (v := .agg [.int .i64 (1 * 2 ^ (Int.toNat (fail.length : Int))), .int .i64 0, .sl 5 rg 96 g10 0 x2.length, .sl 1 rg 60 g9 0 x1.length]) rfl ?_
  refine res_tmp (v := .niface) rfl ?_
  refine res_nil ?_
  show Gives _ (.tuple [.agg [.int .i64 (1 * 2 ^ (Int.toNat (fail.length : Int))), .int .i64 0, .sl 5 rg 96 g10 0 x2.length, .sl 1 rg 60 g9 0 x1.length], .niface]) _
  refine gives_freeze (k := 60) (xs := List.map AV.bool x1) rfl (v' := .tuple [.agg [.int .i64 (1 * 2 ^ (Int.toNat (fail.length : Int))), .int .i64 0, .sl 5 rg 96 g10 0 x2.length, eL AV.bool x1], .niface]) (VW.tupL (vl' (VW.aggL (vl' vr (vl' vr (vl' (frz_ne rfl) (vl' (frz_full rfl) (vn)))))) (vl' vr (vn)))) ?_
  refine gives_freeze (k := 96) (xs := List.map eMove x2) rfl (v' := .tuple [.agg [.int .i64 (1 * 2 ^ (Int.toNat (fail.length : Int))), .int .i64 0, eL eMove x2, eL AV.bool x1], .niface]) (VW.tupL (vl' (VW.aggL (vl' vr (vl' vr (vl' (frz_full rfl) (vl' vr (vn)))))) (vl' vr (vn)))) ?_
  exact gives_out hrg (VW.tupL (vl' vr (vl' vr (vn)))) (hQ _ _ h)
end Go.Proofs.Ytonbnfgknijpoaa
