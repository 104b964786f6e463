/- Walks of functions. Conditions: none. -/
import Derived.Test.YtonbnfgknijpoaaWLProductDown
import Derived.Test.YtonbnfgknijpoaaGgTy
import Derived.Test.YtonbnfgknijpoaaGd
import Derived.Test.YtonbnfgknijpoaaKB
import Derived.Test.YtonbnfgknijpoaaKF
import Derived.Test.YtonbnfgknijpoaaKH50
import Derived.Test.YtonbnfgknijpoaaKPproduct
import Derived.Test.YtonbnfgknijpoaaKPproducte
import Derived.Test.YtonbnfgknijpoaaKS
namespace Go.Proofs.Ytonbnfgknijpoaa
open Go.Gg
set_option maxRecDepth 100000
theorem law50_ProductDown_ctr {x : GRates} {f : GFormula} {Q : Bool → Prop} {S : St} {R : AV → St → Prop} (h : law50_ProductDown_W x f Q) (hQ : ∀ r1, Q r1 → R (AV.bool r1) S) :
    Ctr Try.prog 10 [eRates x, eFormula f] S R := by
  unfold law50_ProductDown_W at h
  refine enterT Try.func10 rfl Try.ntmps10 Try.results10 (by kernel_rfl) (fun rg hrg => ?_)
  refine qZ (rZ ?_)
  refine wZ rg (o_box (v := eRates x) rfl rfl (kk := 2) rfl (by decide) (fun g1 => ?_))
  refine wZ rg (o_box (v := eFormula f) rfl rfl (kk := 3) rfl (by decide) (fun g2 => ?_))
  refine asZ (.bool false) rfl ?_
  refine nZ (qZ (rZ ?_))
  refine wZ rg (o_faP td24 rfl rfl (by rw [sz22]; decide) rfl ?_)
  refine wZ rg (o_loadB1 (atL (k := 2) rfl) sz22 ag22 rfl rfl (v := eL eRat x.Fail) rfl ?_)
  refine wZ rg (o_len td22 rfl ?_)
  refine asZ (.int .i64 (x.Fail.length : Int)) rfl ?_
  refine nZ (qZ ?_)
  obtain ⟨J, h, hJ⟩ := h
  refine Vc.join' (σ := ((Bool) × (Nat × Nat))) (fun y => J y.1) (fun y => envOf [(2, .ptr rg 2 y.2.1 0 0), (3, .ptr rg 3 y.2.2 0 0), (5, .int .i64 (x.Fail.length : Int)), (62, .bool y.1)]) (fun y => stL S rg [(2, .arr 2 [eRates x], y.2.1), (3, .arr 3 [eFormula f], y.2.2)]) (fun y h => ?_) ?_
  · obtain ⟨x1, ⟨g3, g4⟩⟩ := y
    replace h := hJ x1 h
    show Vc _ _ _ _ (envOf [(2, .ptr rg 2 g3 0 0), (3, .ptr rg 3 g4 0 0), (5, .int .i64 (x.Fail.length : Int)), (62, .bool x1)]) (stL S rg [(2, .arr 2 [eRates x], g3), (3, .arr 3 [eFormula f], g4)])
    refine Vc.cond' rfl (fun hb => ?_) (fun hb => ?_)
    · replace h := h.1 hb
      refine qZ (rZ ?_)
      refine wZ rg (o_call (us := []) rfl (vn) (law50_awake_ctr h fun r h => ?_))
      refine asZ (.bool r) rfl ?_
      refine nZ ?_
      refine Vc.ret' ?_
      refine res_tmp (v := .bool r) rfl ?_
      refine res_nil ?_
      show Gives _ (.bool r) _
      exact gives_out hrg (VW.refl _) (hQ _ h)
    replace h := h.2 hb
    refine Vc.skip' ?_
    refine qZ (rZ ?_)
    refine wZ rg (o_faP td24 rfl rfl (by rw [sz22]; decide) rfl ?_)
    refine wZ rg (o_loadB1 (atL (k := 2) rfl) sz22 ag22 rfl rfl (v := eL eRat x.Fail) rfl ?_)
    refine wZ rg (o_faP td24 rfl rfl (by rw [sz22]; decide) rfl ?_)
    refine wZ rg (o_loadB1 (atL (k := 2) rfl) sz22 ag22 rfl rfl (v := eL eRat x.Repair) rfl ?_)
    refine wZ rg (o_call (us := [eL eRat x.Fail, eL eRat x.Repair]) rfl (vl' vr (vl' vr (vn))) (product_Stationary_ctr h fun r1 r2 h => ?_))
    refine mvZ (.tuple [eL eRat r1, eErr 107 r2]) rfl ?_
    refine wZ rg (o_extract (v := eL eRat r1) rfl rfl rfl ?_)
    refine wZ rg (o_extract (v := eErr 107 r2) rfl rfl rfl ?_)
    refine asZ (eL eRat r1) rfl ?_
    refine asZ (eErr 107 r2) rfl ?_
    refine nZ (qZ (qZ (rZ ?_)))
    refine mvZ (eErr 107 r2) rfl ?_
    refine wZ rg (o_isnon td31 (E := 107) rfl rfl rfl ?_)
    refine nZ ?_
    refine Vc.cond' rfl (fun hb1 => ?_) (fun hb1 => ?_)
    · replace h := h.1 hb1
      refine qZ (rZ ?_)
      refine mvZ (eL eRat r1) rfl ?_
      refine wZ rg (o_len td22 rfl ?_)
      refine wZ rg (o_eql rfl rfl ?_)
      refine asZ (.bool ((r1.length : Int) == 0)) rfl ?_
      refine nZ ?_
      refine Vc.ret' ?_
      refine res_tmp (v := .bool ((r1.length : Int) == 0)) rfl ?_
      refine res_nil ?_
      show Gives _ (.bool ((r1.length : Int) == 0)) _
      exact gives_out hrg (VW.refl _) (hQ _ h)
    replace h := h.2 hb1
    refine Vc.skip' ?_
    refine qZ ?_
    have hg := h.1
    replace h := h.2
    have hg1 := h.1
    replace h := h.2
    have hg2 := h.1
    replace h := h.2
    refine Vc.drawn' mixed rg (usOf [(7, pc (.list []))]) (by kernel_rfl) ?_
    refine dP rfl rfl (o_move (v := .int .i64 (x.Fail.length : Int)) rfl ?_)
    refine dL (E := ([], some (rg, 78))) rfl rfl (by simp) (cfn) (o_bslice td68 ok78 zav78 (es := []) rfl (kk := 3) rfl rfl rfl rfl rfl rfl (fun g5 => ?_))
    refine dP rfl rfl (o_faP td70 rfl rfl (by rw [sz68]; decide) rfl ?_)
    refine dL (E := ([(rg, 3)], none)) rfl rfl (by simp) (cfa (by simp [apartE]) (cfn)) (o_loadB1 (atL (k := 3) rfl) sz68 ag68 rfl rfl (v := eL eNode f.Nodes) rfl ?_)
    refine dL (E := ([], some (rg, 78))) rfl rfl (by simp) (cfo (by kernel_rfl) (cfo (by kernel_rfl) (cfn))) (o_appR td68 bts78 ok78 zav78 (es := []) (xs := f.Nodes) (enc := eNode) (atL (k := 78) rfl) (by first | rfl | omega | (simp only [go_sem] <;> omega)) (rfl) (kk := 3) rfl rfl (fun _ => rfl) (fun _ => rfl) hg rfl (fun _ => setL) (fun g6 => ?_))
    refine dP rfl rfl (o_faP td70 rfl rfl (by rw [sz3]; decide) rfl ?_)
    refine dL (E := ([(rg, 3)], none)) rfl rfl (by simp) (cfa (by simp [apartE]) (cfa (by simp [apartE]) (cfa (by simp [apartE]) (cfn)))) (o_loadB1 (atL (k := 3) rfl) sz3 ag3 rfl rfl (v := .int .i64 f.Top) rfl ?_)
    refine dB (l0 := []) rfl td76 ok3 zav3 (es := [.int .i64 f.Top]) rfl (kk := 1) rfl rfl rfl rfl rfl ?_
    refine dP rfl rfl (o_build td78 zav78 bok78 szs78 sz78 (ps := [(0, .int .i64 1), (2, eL (AV.int .i64) [f.Top])]) rfl rfl (v := .agg [.int .i64 1, .int .i64 0, eL (AV.int .i64) [f.Top]]) rfl ?_)
    refine dL (E := ([], some (rg, 86))) rfl rfl (by simp) (cfo (by kernel_rfl) (cfa (by simp [apartE]) (cfa (by simp [apartE]) (cfa (by simp [apartE]) (cfn))))) (o_bslice td68 ok78 zav78 (es := [.agg [.int .i64 1, .int .i64 0, eL (AV.int .i64) [f.Top]]]) rfl (kk := 3) rfl rfl rfl rfl rfl rfl (fun g7 => ?_))
    refine dL (E := ([(rg, 86)], some (rg, 78))) rfl rfl (by simp) (cfo (by kernel_rfl) (cfo (by kernel_rfl) (cfo (by kernel_rfl) (cfo (by kernel_rfl) (cfo (by kernel_rfl) (cfn)))))) (o_appR td68 bts78 ok78 zav78 (es := ([] ++ f.Nodes)) (xs := [(⟨1, 0, [f.Top]⟩ : GNode)]) (enc := eNode) (atL (k := 78) rfl) (by first | rfl | omega | (simp only [go_sem] <;> omega)) (view_rowE (atL (k := 86) rfl) (by first | rfl | omega | (simp only [go_sem] <;> omega))) (kk := 3) rfl rfl (fun _ => rfl) (fun _ => rfl) hg1 rfl (fun _ => setL) (fun g8 => ?_))
    refine dP rfl rfl (o_move (v := .int .i64 (x.Fail.length : Int)) rfl ?_)
    refine dP rfl rfl (o_faP td70 rfl rfl (by rw [sz68]; decide) rfl ?_)
    refine dL (E := ([(rg, 3)], none)) rfl rfl (by simp) (cfa (by simp [apartE]) (cfa (by simp [apartE]) (cfa (by simp [apartE]) (cfa (by simp [apartE]) (cfa (by simp [apartE]) (cfa (by simp [apartE]) (cfn))))))) (o_loadB1 (atL (k := 3) rfl) sz68 ag68 rfl rfl (v := eL eNode f.Nodes) rfl ?_)
    refine dP rfl rfl (o_len td68 rfl ?_)
    refine dP rfl rfl (o_addG rfl rfl hg2 ?_)
    refine dP rfl rfl (o_build td70 zav70 bok70 szs70 sz70 (ps := [(0, .int .i64 (x.Fail.length : Int)), (1, .sl 3 rg 78 g8 0 ((([] ++ f.Nodes) ++ [(⟨1, 0, [f.Top]⟩ : GNode)]).length)), (2, .int .i64 ((x.Fail.length : Int) + (f.Nodes.length : Int)))]) rfl rfl (v := .agg [.int .i64 (x.Fail.length : Int), .sl 3 rg 78 g8 0 ((([] ++ f.Nodes) ++ [(⟨1, 0, [f.Top]⟩ : GNode)]).length), .int .i64 ((x.Fail.length : Int) + (f.Nodes.length : Int))]) rfl ?_)
    refine dL (E := ([], some (rg, 8))) rfl rfl (by simp) (cfa (by simp [apartE]) (cfa (by simp [apartE]) (cfa (by simp [apartE]) (cfa (by simp [apartE]) (cfa (by simp [apartE]) (cfa (by simp [apartE]) (cfa (by simp [apartE]) (cfn)))))))) (o_alloc zav70 ok70 (kk := 3) rfl (fun g9 => ?_))
    refine dL (E := ([], some (rg, 8))) rfl rfl (by simp) (cfo (by kernel_rfl) (cfo (by kernel_rfl) (cfo (by kernel_rfl) (cfo (by kernel_rfl) (cfo (by kernel_rfl) (cfo (by kernel_rfl) (cfo (by kernel_rfl) (cfo (by kernel_rfl) (cfn))))))))) (o_storeB (atL (k := 8) rfl) sz70 (by decide) rfl (w := .agg [.int .i64 (x.Fail.length : Int), .sl 3 rg 78 g8 0 ((([] ++ f.Nodes) ++ [(⟨1, 0, [f.Top]⟩ : GNode)]).length), .int .i64 ((x.Fail.length : Int) + (f.Nodes.length : Int))]) rfl rfl rfl (v := .agg [.int .i64 (x.Fail.length : Int), .sl 3 rg 78 g8 0 ((([] ++ f.Nodes) ++ [(⟨1, 0, [f.Top]⟩ : GNode)]).length), .int .i64 ((x.Fail.length : Int) + (f.Nodes.length : Int))]) rfl setL ?_)
    refine dN ?_
    refine qZ (rZ ?_)
    refine mvZ (eL eRat r1) rfl ?_
    refine wZ rg (o_loadBA (atL (k := 3) rfl) sz70 (by decide) ag70 rfl rfl (v := eFormula f) rfl ?_)
    refine wZ rg (o_call (us := [eL eRat r1, eFormula f]) rfl (vl' vr (vl' vr (vn))) (product_Down_ctr h fun r3 r4 h => ?_))
    refine mvZ (.tuple [eRat r3, eErr 107 r4]) rfl ?_
    refine wZ rg (o_extract (v := eRat r3) rfl rfl rfl ?_)
    refine wZ rg (o_extract (v := eErr 107 r4) rfl rfl rfl ?_)
    refine wZ rg (o_alloc zav27 ok27 (kk := 3) rfl (fun g10 => ?_))
    refine wZ rg (o_storeB (atL (k := 9) rfl) sz27 (by decide) rfl (w := eRat r3) rfl rfl rfl (v := eRat r3) rfl setL ?_)
    refine asZ (eErr 107 r4) rfl ?_
    refine nZ (qZ (rZ ?_))
    refine mvZ (eL eRat r1) rfl ?_
    refine wZ rg (o_loadBA (atL (k := 8) rfl) sz70 (by decide) ag70 rfl rfl (v := .agg [.int .i64 (x.Fail.length : Int), .sl 3 rg 78 g8 0 ((([] ++ f.Nodes) ++ [(⟨1, 0, [f.Top]⟩ : GNode)]).length), .int .i64 ((x.Fail.length : Int) + (f.Nodes.length : Int))]) rfl ?_)
    refine Wl.wk (canon_freeze (k := 78) (xs := List.map eNode (([] ++ f.Nodes) ++ [(⟨1, 0, [f.Top]⟩ : GNode)])) rfl (es := [(2, .ptr rg 2 g3 0 0), (3, .ptr rg 3 g4 0 0), (5, .int .i64 (x.Fail.length : Int)), (9, .ptr rg 9 g10 0 0), (10, eErr 107 r4), (101, eL eRat r1), (102, .agg [.int .i64 (x.Fail.length : Int), eL eNode (([] ++ f.Nodes) ++ [(⟨1, 0, [f.Top]⟩ : GNode)]), .int .i64 ((x.Fail.length : Int) + (f.Nodes.length : Int))])]) (fc vr (fc vr (fc vr (fc vr (fc (fzE0) (fc vr (fc (VW.aggL (vl' vr (vl' (frz_full rfl) (vl' vr (vn))))) (fn)))))))) (m := [(2, .arr 2 [eRates x], g3), (3, .arr 3 [eFormula f], g4), (9, .arr 3 [eRat r3], g10)]) (sc rfl (sc rfl (sc rfl (sn))))) ?_
    refine wZ rg (o_call (us := [eL eRat r1, eFormula (⟨(x.Fail.length : Int), (([] ++ f.Nodes) ++ [(⟨1, 0, [f.Top]⟩ : GNode)]), ((x.Fail.length : Int) + (f.Nodes.length : Int))⟩ : GFormula)]) rfl (vl' vr (vl' vr (vn))) (product_Down_ctr h fun r5 r6 h => ?_))
    refine mvZ (.tuple [eRat r5, eErr 107 r6]) rfl ?_
    refine wZ rg (o_extract (v := eRat r5) rfl rfl rfl ?_)
    refine wZ rg (o_extract (v := eErr 107 r6) rfl rfl rfl ?_)
    refine wZ rg (o_alloc zav27 ok27 (kk := 3) rfl (fun g11 => ?_))
    refine wZ rg (o_storeB (atL (k := 11) rfl) sz27 (by decide) rfl (w := eRat r5) rfl rfl rfl (v := eRat r5) rfl setL ?_)
    refine asZ (eErr 107 r6) rfl ?_
    refine nZ (qZ (qZ (rZ ?_)))
    refine mvZ (eErr 107 r4) rfl ?_
    refine wZ rg (o_isnon td31 (E := 107) rfl rfl rfl ?_)
    refine mvZ (.bool (Option.isSome r4)) rfl ?_
    refine Wl.guard rfl rfl (fun hb2 => ?_) (fun hb2 => ?_)
    · replace h := h.2 hb2
      refine mvZ (eErr 107 r6) rfl ?_
      refine Wl.guardT rfl rfl hb2 ?_
      refine wZ rg (o_isnon td31 (E := 107) rfl rfl rfl ?_)
      refine wZ rg (o_pickF rfl hb2 (v := .bool (Option.isSome r6)) rfl ?_)
      refine mvZ (.bool (Option.isSome r6)) rfl ?_
      refine Wl.guard rfl rfl (fun hb3 => ?_) (fun hb3 => ?_)
      · replace h := h.2 hb3
        refine wZ rg (o_loadBA (atL (k := 9) rfl) sz27 (by decide) ag27 rfl rfl (v := eRat r3) rfl ?_)
        refine Wl.guardT rfl rfl hb3 ?_
        refine wZ rg (o_loadBA (atL (k := 11) rfl) sz27 (by decide) ag27 rfl rfl (v := eRat r5) rfl ?_)
        refine Wl.guardT rfl rfl hb3 ?_
        refine wZ rg (o_call (us := [eRat r3, eRat r5]) rfl (vl' vr (vl' vr (vn))) (rational_Add_ctr h fun r7 h => ?_))
        refine Wl.guardT rfl rfl hb3 ?_
        refine wZ rg (o_call (us := [AV.int .i64 1]) rfl (vl' vr (vn)) (rational_Of_ctr h fun r8 h => ?_))
        refine Wl.guardT rfl rfl hb3 ?_
        refine wZ rg (o_call (us := [eRat r7, eRat r8]) rfl (vl' vr (vl' vr (vn))) (rational_Cmp_ctr h fun r9 h => ?_))
        refine Wl.guardT rfl rfl hb3 ?_
        refine wZ rg (o_neq rfl rfl ?_)
        refine wZ rg (o_pickF rfl hb3 (v := .bool (r9 != 0)) rfl ?_)
        refine nZ ?_
        refine Vc.cond' rfl (fun hb4 => ?_) (fun hb4 => ?_)
        · replace h := h.1 hb4
          refine qZ (rZ ?_)
          refine asZ (.bool false) rfl ?_
          refine nZ ?_
          refine Vc.ret' ?_
          refine res_tmp (v := .bool false) rfl ?_
          refine res_nil ?_
          show Gives _ (.bool false) _
          exact gives_out hrg (VW.refl _) (hQ _ h)
        replace h := h.2 hb4
        refine Vc.skip' ?_
        refine qZ ?_
        have hg3 := h.1
        replace h := h.2
        have hg4 := h.1
        replace h := h.2
        have hg5 := h.1
        replace h := h.2
        have hg6 := h.1
        replace h := h.2
        obtain ⟨r10, r11, hc, h⟩ := h
        refine Vc.drawn' mixed rg (usOf [(12, pc (.tuple [eRat r10, eErr 107 r11]))]) (by kernel_rfl) ?_
        refine dP rfl rfl (o_faP td24 rfl rfl (by rw [sz22]; decide) rfl ?_)
        refine dL (E := ([(rg, 2)], none)) rfl rfl (by simp) (cfn) (o_loadB1 (atL (k := 2) rfl) sz22 ag22 rfl rfl (v := eL eRat x.Fail) rfl ?_)
        refine dP rfl rfl (o_move (v := .int .i64 (x.Fail.length : Int)) rfl ?_)
        refine dP rfl rfl (o_subG rfl rfl hg3 ?_)
        refine dP rfl rfl (o_idxL td22 sz27 (by decide) (fun _ => rfl) rfl rfl hg4 ?_)
        refine dP rfl rfl (o_loadIA sz27 (by decide) ag27 rfl rfl (v := eRat (at' x.Fail ((x.Fail.length : Int) - 1))) rfl ?_)
        refine dP rfl rfl (o_faP td24 rfl rfl (by rw [sz22]; decide) rfl ?_)
        refine dL (E := ([(rg, 2)], none)) rfl rfl (by simp) (cfa (by simp [apartE]) (cfn)) (o_loadB1 (atL (k := 2) rfl) sz22 ag22 rfl rfl (v := eL eRat x.Repair) rfl ?_)
        refine dP rfl rfl (o_move (v := .int .i64 (x.Fail.length : Int)) rfl ?_)
        refine dP rfl rfl (o_subG rfl rfl hg5 ?_)
        refine dP rfl rfl (o_idxL td22 sz27 (by decide) (fun _ => rfl) rfl rfl hg6 ?_)
        refine dP rfl rfl (o_loadIA sz27 (by decide) ag27 rfl rfl (v := eRat (at' x.Repair ((x.Fail.length : Int) - 1))) rfl ?_)
        refine dC (vs := [eRat (at' x.Fail ((x.Fail.length : Int) - 1)), eRat (at' x.Repair ((x.Fail.length : Int) - 1))]) rfl (vl' vr (vl' vr (vn))) (fun _ => product_Unavailable_ctr hc (fun _ _ hr => ⟨by rw [hr.1, hr.2], rfl⟩)) rfl ?_
        refine dP rfl rfl (o_move (v := .tuple [eRat r10, eErr 107 r11]) rfl ?_)
        refine dP rfl rfl (o_extract (v := eRat r10) rfl rfl rfl ?_)
        refine dP rfl rfl (o_extract (v := eErr 107 r11) rfl rfl rfl ?_)
        refine dL (E := ([], some (rg, 13))) rfl rfl (by simp) (cfa (by simp [apartE]) (cfa (by simp [apartE]) (cfn))) (o_alloc zav27 ok27 (kk := 3) rfl (fun g12 => ?_))
        refine dL (E := ([], some (rg, 13))) rfl rfl (by simp) (cfo (by kernel_rfl) (cfo (by kernel_rfl) (cfo (by kernel_rfl) (cfn)))) (o_storeB (atL (k := 13) rfl) sz27 (by decide) rfl (w := eRat r10) rfl rfl rfl (v := eRat r10) rfl setL ?_)
        refine dP rfl rfl (o_assign (v := eErr 107 r11) rfl ?_)
        refine dN ?_
        refine qZ (qZ (rZ ?_))
        refine mvZ (eErr 107 r11) rfl ?_
        refine wZ rg (o_isnon td31 (E := 107) rfl rfl rfl ?_)
        refine nZ ?_
        refine Vc.cond' rfl (fun hb5 => ?_) (fun hb5 => ?_)
        · replace h := h.1 hb5
          refine qZ (rZ ?_)
          refine asZ (.bool false) rfl ?_
          refine nZ ?_
          refine Vc.ret' ?_
          refine res_tmp (v := .bool false) rfl ?_
          refine res_nil ?_
          show Gives _ (.bool false) _
          exact gives_out hrg (VW.refl _) (hQ _ h)
        replace h := h.2 hb5
        refine Vc.skip' ?_
        refine qZ (qZ (rZ ?_))
        refine mvZ (.int .i64 (x.Fail.length : Int)) rfl ?_
        refine wZ rg (o_lss rfl rfl ?_)
        refine nZ ?_
        refine Vc.cond' rfl (fun hb6 => ?_) (fun hb6 => ?_)
        · replace h := h.1 hb6
          refine qZ (rZ ?_)
          refine asZ (.bool true) rfl ?_
          refine nZ ?_
          refine Vc.ret' ?_
          refine res_tmp (v := .bool true) rfl ?_
          refine res_nil ?_
          show Gives _ (.bool true) _
          exact gives_out hrg (VW.refl _) (hQ _ h)
        replace h := h.2 hb6
        refine Vc.skip' ?_
        refine qZ ?_
        have hg7 := h.1
        replace h := h.2
        have hg8 := h.1
        replace h := h.2
        have hg9 := h.1
        replace h := h.2
        have hg10 := h.1
        replace h := h.2
        obtain ⟨r12, r13, hc1, h⟩ := h
        refine Vc.drawn' mixed rg (usOf [(10, pc (.tuple [eL eRat r12, eErr 107 r13]))]) (by kernel_rfl) ?_
        refine dP rfl rfl (o_faP td24 rfl rfl (by rw [sz22]; decide) rfl ?_)
        refine dL (E := ([(rg, 2)], none)) rfl rfl (by simp) (cfn) (o_loadB1 (atL (k := 2) rfl) sz22 ag22 rfl rfl (v := eL eRat x.Fail) rfl ?_)
        refine dP rfl rfl (o_move (v := .int .i64 (x.Fail.length : Int)) rfl ?_)
        refine dP rfl rfl (o_subG rfl rfl hg7 ?_)
        refine dP rfl rfl (o_sliceL td22 sz27 (by decide) (fun _ => rfl) rfl (l := 0) (h := ((x.Fail.length : Int) - 1)) rfl rfl hg8 ?_)
        refine dP rfl rfl (o_faP td24 rfl rfl (by rw [sz22]; decide) rfl ?_)
        refine dL (E := ([(rg, 2)], none)) rfl rfl (by simp) (cfa (by simp [apartE]) (cfn)) (o_loadB1 (atL (k := 2) rfl) sz22 ag22 rfl rfl (v := eL eRat x.Repair) rfl ?_)
        refine dP rfl rfl (o_move (v := .int .i64 (x.Fail.length : Int)) rfl ?_)
        refine dP rfl rfl (o_subG rfl rfl hg9 ?_)
        refine dP rfl rfl (o_sliceL td22 sz27 (by decide) (fun _ => rfl) rfl (l := 0) (h := ((x.Fail.length : Int) - 1)) rfl rfl hg10 ?_)
        refine dC (vs := [eL eRat (sub' x.Fail 0 ((x.Fail.length : Int) - 1)), eL eRat (sub' x.Repair 0 ((x.Fail.length : Int) - 1))]) rfl (vl' vr (vl' vr (vn))) (fun _ => product_Stationary_ctr hc1 (fun _ _ hr => ⟨by rw [hr.1, hr.2], rfl⟩)) rfl ?_
        refine dP rfl rfl (o_move (v := .tuple [eL eRat r12, eErr 107 r13]) rfl ?_)
        refine dP rfl rfl (o_extract (v := eL eRat r12) rfl rfl rfl ?_)
        refine dP rfl rfl (o_extract (v := eErr 107 r13) rfl rfl rfl ?_)
        refine dP rfl rfl (o_assign (v := eL eRat r12) rfl ?_)
        refine dP rfl rfl (o_assign (v := eErr 107 r13) rfl ?_)
        refine dN ?_
        refine qZ (qZ (rZ ?_))
        refine mvZ (eErr 107 r13) rfl ?_
        refine wZ rg (o_isnon td31 (E := 107) rfl rfl rfl ?_)
        refine mvZ (.bool (Option.isSome r13)) rfl ?_
        refine Wl.guard rfl rfl (fun hb7 => ?_) (fun hb7 => ?_)
        · replace h := h.2 hb7
          refine mvZ (eL eRat r12) rfl ?_
          refine Wl.guardT rfl rfl hb7 ?_
          refine wZ rg (o_len td22 rfl ?_)
          refine Wl.guardT rfl rfl hb7 ?_
          refine mvZ (.int .i64 (x.Fail.length : Int)) rfl ?_
          refine Wl.guardT rfl rfl hb7 ?_
          refine wZ rg (o_subG rfl rfl h.1 ?_)
          replace h := h.2
          refine Wl.guardT rfl rfl hb7 ?_
          refine wZ rg (o_shlG rfl rfl h.1 ?_)
          replace h := h.2
          refine Wl.guardT rfl rfl hb7 ?_
          refine wZ rg (o_neq rfl rfl ?_)
          refine wZ rg (o_pickF rfl hb7 (v := .bool ((r12.length : Int) != (1 * 2 ^ (Int.toNat ((x.Fail.length : Int) - 1))))) rfl ?_)
          refine nZ ?_
          refine Vc.cond' rfl (fun hb8 => ?_) (fun hb8 => ?_)
          · replace h := h.1 hb8
            refine qZ (rZ ?_)
            refine asZ (.bool false) rfl ?_
            refine nZ ?_
            refine Vc.ret' ?_
            refine res_tmp (v := .bool false) rfl ?_
            refine res_nil ?_
            show Gives _ (.bool false) _
            exact gives_out hrg (VW.refl _) (hQ _ h)
          replace h := h.2 hb8
          refine Vc.skip' ?_
          refine qZ (rZ ?_)
          refine wZ rg (o_alloc zav80 ok80 (kk := 6) rfl (fun g13 => ?_))
          refine nZ (qZ (qZ (rZ ?_)))
          refine mvZ (eL eRat r12) rfl ?_
          refine wZ rg (o_len td22 rfl ?_)
          refine mvZ (.int .i64 0) rfl ?_
          refine nZ ?_
          refine Vc.blk ?_
          obtain ⟨I, μ, h0, hI⟩ := h
          refine Vc.loop' (σ := (Int × Bool × (List Int) × (List Int) × Bool × (List Int) × (List Int))) (fun y => I y) (fun y => μ y) (fun y => envOf [(3, .ptr rg 3 g4 0 0), (5, .int .i64 (x.Fail.length : Int)), (9, .ptr rg 9 g10 0 0), (13, .ptr rg 13 g12 0 0), (17, .ptr rg 17 g13 0 0), (164, eL eRat r12), (165, .int .i64 (r12.length : Int)), (166, .int .i64 y.1)]) (fun y => stL S rg [(3, .arr 3 [eFormula f], g4), (9, .arr 3 [eRat r3], g10), (13, .arr 3 [eRat r10], g12), (17, .arr 6 [.agg [.bool y.2.1, eL (AV.int .u32) y.2.2.1, eL (AV.int .u32) y.2.2.2.1, .bool y.2.2.2.2.1, eL (AV.int .u32) y.2.2.2.2.2.1, eL (AV.int .u32) y.2.2.2.2.2.2]], g13)]) (0, false, [], [], false, [], []) (EWk.trans (EWk.ow (k := 17) (o' := .arr 6 [.agg [.bool false, eL (AV.int .u32) [], eL (AV.int .u32) [], .bool false, eL (AV.int .u32) [], eL (AV.int .u32) []]]) rfl (OW.one (VWL.vwc (vl' vr (vl' (VW.nilL) (vl' (VW.nilL) (vl' vr (vl' (VW.nilL) (vl' (VW.nilL) (vn)))))))))) (canon (fc vr (fc vr (fc vr (fc vr (fc vr (fc vr (fc vr (fc vr (fn))))))))) (sc rfl (sc rfl (sc rfl (sc rfl (sn))))))) h0 (fun y h => ?_)
          obtain ⟨x2, x3, x4, x5, x6, x7, x8⟩ := y
          replace h := hI (x2, x3, x4, x5, x6, x7, x8) h
          show Vc _ _ _ _ (envOf [(3, .ptr rg 3 g4 0 0), (5, .int .i64 (x.Fail.length : Int)), (9, .ptr rg 9 g10 0 0), (13, .ptr rg 13 g12 0 0), (17, .ptr rg 17 g13 0 0), (164, eL eRat r12), (165, .int .i64 (r12.length : Int)), (166, .int .i64 x2)]) (stL S rg [(3, .arr 3 [eFormula f], g4), (9, .arr 3 [eRat r3], g10), (13, .arr 3 [eRat r10], g12), (17, .arr 6 [.agg [.bool x3, eL (AV.int .u32) x4, eL (AV.int .u32) x5, .bool x6, eL (AV.int .u32) x7, eL (AV.int .u32) x8]], g13)])
          refine qZ (rZ ?_)
          refine wZ rg (o_lss rfl rfl ?_)
          refine nZ (qZ ?_)
          refine Vc.cond' rfl (fun hb9 => ?_) (fun hb9 => ?_)
          · replace h := h.1 hb9
            refine Vc.skip' ?_
            refine qZ ?_
            refine Vc.blk ?_
            refine qZ (rZ ?_)
            refine mvZ (.int .i64 x2) rfl ?_
            refine wZ rg (o_idxL td22 sz27 (by decide) (fun _ => rfl) rfl rfl h.1 ?_)
            replace h := h.2
            refine wZ rg (o_loadIA sz27 (by decide) ag27 rfl rfl (v := eRat (at' r12 x2)) rfl ?_)
            refine wZ rg (o_alloc zav27 ok27 (kk := 3) rfl (fun g14 => ?_))
            refine asZ (.int .i64 x2) rfl ?_
            refine wZ rg (o_storeB (atL (k := 19) rfl) sz27 (by decide) rfl (w := eRat (at' r12 x2)) rfl rfl rfl (v := eRat (at' r12 x2)) rfl setL ?_)
            refine nZ (qZ (rZ ?_))
            refine mvZ (.int .i64 0) rfl ?_
            refine nZ ?_
            refine Vc.blk ?_
            obtain ⟨I, μ, h0, hI⟩ := h
            refine Vc.loop' (σ := (Int × Bool × (List Int) × (List Int) × Bool × (List Int) × (List Int))) (fun y => I y) (fun y => μ y) (fun y => envOf [(3, .ptr rg 3 g4 0 0), (5, .int .i64 (x.Fail.length : Int)), (9, .ptr rg 9 g10 0 0), (13, .ptr rg 13 g12 0 0), (17, .ptr rg 17 g13 0 0), (18, .int .i64 x2), (19, .ptr rg 19 g14 0 0), (164, eL eRat r12), (165, .int .i64 (r12.length : Int)), (166, .int .i64 x2), (171, .int .i64 y.1)]) (fun y => stL S rg [(3, .arr 3 [eFormula f], g4), (9, .arr 3 [eRat r3], g10), (13, .arr 3 [eRat r10], g12), (17, .arr 6 [.agg [.bool y.2.1, eL (AV.int .u32) y.2.2.1, eL (AV.int .u32) y.2.2.2.1, .bool y.2.2.2.2.1, eL (AV.int .u32) y.2.2.2.2.2.1, eL (AV.int .u32) y.2.2.2.2.2.2]], g13), (19, .arr 3 [eRat (at' r12 x2)], g14)]) (0, x3, x4, x5, x6, x7, x8) (canon (fc vr (fc vr (fc vr (fc vr (fc vr (fc vr (fc vr (fc vr (fc vr (fc vr (fc vr (fn)))))))))))) (sc rfl (sc rfl (sc rfl (sc rfl (sc rfl (sn))))))) h0 (fun y h => ?_)
            obtain ⟨x9, x10, x11, x12, x13, x14, x15⟩ := y
            replace h := hI (x9, x10, x11, x12, x13, x14, x15) h
            show Vc _ _ _ _ (envOf [(3, .ptr rg 3 g4 0 0), (5, .int .i64 (x.Fail.length : Int)), (9, .ptr rg 9 g10 0 0), (13, .ptr rg 13 g12 0 0), (17, .ptr rg 17 g13 0 0), (18, .int .i64 x2), (19, .ptr rg 19 g14 0 0), (164, eL eRat r12), (165, .int .i64 (r12.length : Int)), (166, .int .i64 x2), (171, .int .i64 x9)]) (stL S rg [(3, .arr 3 [eFormula f], g4), (9, .arr 3 [eRat r3], g10), (13, .arr 3 [eRat r10], g12), (17, .arr 6 [.agg [.bool x10, eL (AV.int .u32) x11, eL (AV.int .u32) x12, .bool x13, eL (AV.int .u32) x14, eL (AV.int .u32) x15]], g13), (19, .arr 3 [eRat (at' r12 x2)], g14)])
            refine qZ (rZ ?_)
            refine wZ rg (o_lss rfl rfl ?_)
            refine nZ (qZ ?_)
            refine Vc.cond' rfl (fun hb10 => ?_) (fun hb10 => ?_)
            · replace h := h.1 hb10
              refine Vc.skip' ?_
              refine qZ ?_
              refine Vc.blk ?_
              refine qZ (rZ ?_)
              refine mvZ (.int .i64 x9) rfl ?_
              refine asZ (.int .i64 x9) rfl ?_
              refine nZ (qZ ?_)
              have hg11 := h.1
              replace h := h.2
              have hg12 := h.1
              replace h := h.2
              obtain ⟨r14, r15, hc2, h⟩ := h
              refine Vc.drawn' mixed rg (usOf [(7, pc (.tuple [.bool r14, eErr 107 r15]))]) (by kernel_rfl) ?_
              refine dL (E := ([(rg, 3)], none)) rfl rfl (by simp) (cfn) (o_loadBA (atL (k := 3) rfl) sz70 (by decide) ag70 rfl rfl (v := eFormula f) rfl ?_)
              refine dP rfl rfl (o_move (v := .int .i64 x2) rfl ?_)
              refine dP rfl rfl (o_move (v := .int .i64 x9) rfl ?_)
              refine dP rfl rfl (o_move (v := .int .i64 (x.Fail.length : Int)) rfl ?_)
              refine dP rfl rfl (o_subG rfl rfl hg11 ?_)
              refine dP rfl rfl (o_shlG rfl rfl hg12 ?_)
              refine dP rfl rfl (o_or rfl rfl ?_)
              refine dC (vs := [eFormula f, AV.int .i64 (bits .or .i64 x2 (x9 * 2 ^ (Int.toNat ((x.Fail.length : Int) - 1))))]) rfl (vl' vr (vl' vr (vn))) (fun _ => formula_Value_ctr hc2 (fun _ _ hr => ⟨by rw [hr.1, hr.2], rfl⟩)) rfl ?_
              refine dP rfl rfl (o_move (v := .tuple [.bool r14, eErr 107 r15]) rfl ?_)
              refine dP rfl rfl (o_extract (v := .bool r14) rfl rfl rfl ?_)
              refine dP rfl rfl (o_extract (v := eErr 107 r15) rfl rfl rfl ?_)
              refine dP rfl rfl (o_assign (v := .bool r14) rfl ?_)
              refine dP rfl rfl (o_assign (v := eErr 107 r15) rfl ?_)
              refine dN ?_
              refine qZ (qZ (rZ ?_))
              refine mvZ (eErr 107 r15) rfl ?_
              refine wZ rg (o_isnon td31 (E := 107) rfl rfl rfl ?_)
              refine nZ ?_
              refine Vc.cond' rfl (fun hb11 => ?_) (fun hb11 => ?_)
              · replace h := h.1 hb11
                refine qZ (rZ ?_)
                refine asZ (.bool false) rfl ?_
                refine nZ ?_
                refine Vc.ret' ?_
                refine res_tmp (v := .bool false) rfl ?_
                refine res_nil ?_
                show Gives _ (.bool false) _
                exact gives_out hrg (VW.refl _) (hQ _ h)
              replace h := h.2 hb11
              refine Vc.skip' ?_
              refine qZ (rZ ?_)
              refine mvZ (.bool r14) rfl ?_
              refine nZ ?_
              refine Vc.cond' rfl (fun hb12 => ?_) (fun hb12 => ?_)
              · replace h := h.1 hb12
                rcases Bool.eq_false_or_eq_true (x9 == 0) with hb13 | hb13
                · replace h := h.1 hb13
                  obtain ⟨r16, hc3, h⟩ := h
                  refine Vc.drawn' mixed rg (usOf [(5, pc (eRat r16))]) (by kernel_rfl) ?_
                  refine dP rfl rfl (o_move (v := .int .i64 x9) rfl ?_)
                  refine dP rfl rfl (o_move (v := .int .i64 x9) rfl ?_)
                  refine dP rfl rfl (o_idxA td80 sz27 (by decide) rfl rfl (c := 0) (by simpa using hb13) (by decide) (off' := 0) rfl ?_)
                  refine dL (E := ([(rg, 17)], none)) rfl rfl (by simp) (cfn) (o_loadBA (atL (k := 17) rfl) sz27 (by decide) ag27 rfl rfl (v := .agg [.bool x10, eL (AV.int .u32) x11, eL (AV.int .u32) x12]) rfl ?_)
                  refine dL (E := ([(rg, 19)], none)) rfl rfl (by simp) (cfa (by simp [apartE]) (cfn)) (o_loadBA (atL (k := 19) rfl) sz27 (by decide) ag27 rfl rfl (v := eRat (at' r12 x2)) rfl ?_)
                  refine dC (vs := [eRat (⟨x10, x11, x12⟩ : GRat), eRat (at' r12 x2)]) rfl (vl' vr (vl' vr (vn))) (fun _ => rational_Add_ctr hc3 (fun _ hr => ⟨by rw [hr], rfl⟩)) rfl ?_
                  refine dP rfl rfl (o_idxA td80 sz27 (by decide) rfl rfl (c := 0) (by simpa using hb13) (by decide) (off' := 0) rfl ?_)
                  refine dL (E := ([], some (rg, 17))) rfl rfl (by simp) (cfo (by kernel_rfl) (cfo (by kernel_rfl) (cfn))) (o_storeB (atL (k := 17) rfl) sz27 (by decide) rfl (w := eRat r16) rfl rfl rfl (v := .agg [.bool r16.Neg, eL (AV.int .u32) r16.Num, eL (AV.int .u32) r16.Den, .bool x13, eL (AV.int .u32) x14, eL (AV.int .u32) x15]) rfl setL ?_)
                  refine dN ?_
                  refine rZ ?_
                  refine wZ rg (o_addG rfl rfl h.1 ?_)
                  replace h := h.2
                  refine mvZ (.int .i64 (x9 + 1)) rfl ?_
                  refine nZ ?_
                  exact ⟨((x9 + 1), r16.Neg, r16.Num, r16.Den, x13, x14, x15), (canon (fc vr (fc vr (fc vr (fc vr (fc vr (fc vr (fc vr (fc vr (fc vr (fc vr (fc vr (fn)))))))))))) (sc rfl (sc rfl (sc rfl (sc rfl (sc rfl (sn))))))), h⟩
                replace h := h.2 hb13
                rcases Bool.eq_false_or_eq_true (x9 == 1) with hb14 | hb14
                · replace h := h.1 hb14
                  obtain ⟨r17, hc4, h⟩ := h
                  refine Vc.drawn' mixed rg (usOf [(5, pc (eRat r17))]) (by kernel_rfl) ?_
                  refine dP rfl rfl (o_move (v := .int .i64 x9) rfl ?_)
                  refine dP rfl rfl (o_move (v := .int .i64 x9) rfl ?_)
                  refine dP rfl rfl (o_idxA td80 sz27 (by decide) rfl rfl (c := 1) (by simpa using hb14) (by decide) (off' := 3) rfl ?_)
                  refine dL (E := ([(rg, 17)], none)) rfl rfl (by simp) (cfn) (o_loadBA (atL (k := 17) rfl) sz27 (by decide) ag27 rfl rfl (v := .agg [.bool x13, eL (AV.int .u32) x14, eL (AV.int .u32) x15]) rfl ?_)
                  refine dL (E := ([(rg, 19)], none)) rfl rfl (by simp) (cfa (by simp [apartE]) (cfn)) (o_loadBA (atL (k := 19) rfl) sz27 (by decide) ag27 rfl rfl (v := eRat (at' r12 x2)) rfl ?_)
                  refine dC (vs := [eRat (⟨x13, x14, x15⟩ : GRat), eRat (at' r12 x2)]) rfl (vl' vr (vl' vr (vn))) (fun _ => rational_Add_ctr hc4 (fun _ hr => ⟨by rw [hr], rfl⟩)) rfl ?_
                  refine dP rfl rfl (o_idxA td80 sz27 (by decide) rfl rfl (c := 1) (by simpa using hb14) (by decide) (off' := 3) rfl ?_)
                  refine dL (E := ([], some (rg, 17))) rfl rfl (by simp) (cfo (by kernel_rfl) (cfo (by kernel_rfl) (cfn))) (o_storeB (atL (k := 17) rfl) sz27 (by decide) rfl (w := eRat r17) rfl rfl rfl (v := .agg [.bool x10, eL (AV.int .u32) x11, eL (AV.int .u32) x12, .bool r17.Neg, eL (AV.int .u32) r17.Num, eL (AV.int .u32) r17.Den]) rfl setL ?_)
                  refine dN ?_
                  refine rZ ?_
                  refine wZ rg (o_addG rfl rfl h.1 ?_)
                  replace h := h.2
                  refine mvZ (.int .i64 (x9 + 1)) rfl ?_
                  refine nZ ?_
                  exact ⟨((x9 + 1), x10, x11, x12, r17.Neg, r17.Num, r17.Den), (canon (fc vr (fc vr (fc vr (fc vr (fc vr (fc vr (fc vr (fc vr (fc vr (fc vr (fc vr (fn)))))))))))) (sc rfl (sc rfl (sc rfl (sc rfl (sc rfl (sn))))))), h⟩
                replace h := h.2 hb14
                exact h.elim
              replace h := h.2 hb12
              refine Vc.skip' ?_
              refine rZ ?_
              refine wZ rg (o_addG rfl rfl h.1 ?_)
              replace h := h.2
              refine mvZ (.int .i64 (x9 + 1)) rfl ?_
              refine nZ ?_
              exact ⟨((x9 + 1), x10, x11, x12, x13, x14, x15), (canon (fc vr (fc vr (fc vr (fc vr (fc vr (fc vr (fc vr (fc vr (fc vr (fc vr (fc vr (fn)))))))))))) (sc rfl (sc rfl (sc rfl (sc rfl (sc rfl (sn))))))), h⟩
            replace h := h.2 hb10
            refine Vc.exit' (exB_self ?_)
            refine rZ ?_
            refine wZ rg (o_addG rfl rfl h.1 ?_)
            replace h := h.2
            refine mvZ (.int .i64 (x2 + 1)) rfl ?_
            refine nZ ?_
            exact ⟨((x2 + 1), x10, x11, x12, x13, x14, x15), (canon (fc vr (fc vr (fc vr (fc vr (fc vr (fc vr (fc vr (fc vr (fn))))))))) (sc rfl (sc rfl (sc rfl (sc rfl (sn)))))), h⟩
          replace h := h.2 hb9
          refine Vc.exit' (exB_self ?_)
          refine qZ ?_
          obtain ⟨r18, hc5, h⟩ := h
          obtain ⟨r19, hc6, h⟩ := h
          obtain ⟨r20, hc7, h⟩ := h
          obtain ⟨r21, hc8, h⟩ := h
          obtain ⟨r22, hc9, h⟩ := h
          refine Vc.drawn' mixed rg (usOf [(3, pc (eRat r18)), (4, pc (eRat r19)), (6, pc (eRat r20)), (9, pc (eRat r21)), (10, pc (eRat r22))]) (by kernel_rfl) ?_
          refine dL (E := ([(rg, 13)], none)) rfl rfl (by simp) (cfn) (o_loadBA (atL (k := 13) rfl) sz27 (by decide) ag27 rfl rfl (v := eRat r10) rfl ?_)
          refine dP rfl rfl (o_idxA td80 sz27 (by decide) rfl rfl (c := 1) rfl (by decide) (off' := 3) rfl ?_)
          refine dL (E := ([(rg, 17)], none)) rfl rfl (by simp) (cfa (by simp [apartE]) (cfn)) (o_loadBA (atL (k := 17) rfl) sz27 (by decide) ag27 rfl rfl (v := .agg [.bool x6, eL (AV.int .u32) x7, eL (AV.int .u32) x8]) rfl ?_)
          refine dC (vs := [eRat r10, eRat (⟨x6, x7, x8⟩ : GRat)]) rfl (vl' vr (vl' vr (vn))) (fun _ => rational_Mul_ctr hc5 (fun _ hr => ⟨by rw [hr], rfl⟩)) rfl ?_
          refine dC (vs := [AV.int .i64 1]) rfl (vl' vr (vn)) (fun _ => rational_Of_ctr hc6 (fun _ hr => ⟨by rw [hr], rfl⟩)) rfl ?_
          refine dL (E := ([(rg, 13)], none)) rfl rfl (by simp) (cfa (by simp [apartE]) (cfa (by simp [apartE]) (cfn))) (o_loadBA (atL (k := 13) rfl) sz27 (by decide) ag27 rfl rfl (v := eRat r10) rfl ?_)
          refine dC (vs := [eRat r19, eRat r10]) rfl (vl' vr (vl' vr (vn))) (fun _ => rational_Sub_ctr hc7 (fun _ hr => ⟨by rw [hr], rfl⟩)) rfl ?_
          refine dP rfl rfl (o_idxA td80 sz27 (by decide) rfl rfl (c := 0) rfl (by decide) (off' := 0) rfl ?_)
          refine dL (E := ([(rg, 17)], none)) rfl rfl (by simp) (cfa (by simp [apartE]) (cfa (by simp [apartE]) (cfa (by simp [apartE]) (cfn)))) (o_loadBA (atL (k := 17) rfl) sz27 (by decide) ag27 rfl rfl (v := .agg [.bool x3, eL (AV.int .u32) x4, eL (AV.int .u32) x5]) rfl ?_)
          refine dC (vs := [eRat r20, eRat (⟨x3, x4, x5⟩ : GRat)]) rfl (vl' vr (vl' vr (vn))) (fun _ => rational_Mul_ctr hc8 (fun _ hr => ⟨by rw [hr], rfl⟩)) rfl ?_
          refine dC (vs := [eRat r18, eRat r21]) rfl (vl' vr (vl' vr (vn))) (fun _ => rational_Add_ctr hc9 (fun _ hr => ⟨by rw [hr], rfl⟩)) rfl ?_
          refine dL (E := ([], some (rg, 23))) rfl rfl (by simp) (cfa (by simp [apartE]) (cfa (by simp [apartE]) (cfa (by simp [apartE]) (cfa (by simp [apartE]) (cfn))))) (o_alloc zav27 ok27 (kk := 3) rfl (fun g15 => ?_))
          refine dL (E := ([], some (rg, 23))) rfl rfl (by simp) (cfo (by kernel_rfl) (cfo (by kernel_rfl) (cfo (by kernel_rfl) (cfo (by kernel_rfl) (cfo (by kernel_rfl) (cfn)))))) (o_storeB (atL (k := 23) rfl) sz27 (by decide) rfl (w := eRat r22) rfl rfl rfl (v := eRat r22) rfl setL ?_)
          refine dN ?_
          refine qZ (rZ ?_)
          refine wZ rg (o_loadBA (atL (k := 23) rfl) sz27 (by decide) ag27 rfl rfl (v := eRat r22) rfl ?_)
          refine wZ rg (o_loadBA (atL (k := 9) rfl) sz27 (by decide) ag27 rfl rfl (v := eRat r3) rfl ?_)
          refine wZ rg (o_call (us := [eRat r22, eRat r3]) rfl (vl' vr (vl' vr (vn))) (rational_Cmp_ctr h fun r23 h => ?_))
          refine wZ rg (o_eql rfl rfl ?_)
          refine asZ (.bool (r23 == 0)) rfl ?_
          refine nZ ?_
          refine Vc.ret' ?_
          refine res_tmp (v := .bool (r23 == 0)) rfl ?_
          refine res_nil ?_
          show Gives _ (.bool (r23 == 0)) _
          exact gives_out hrg (VW.refl _) (hQ _ h)
        replace h := h.1 hb7
        refine Wl.guardF rfl rfl hb7 rfl ?_
        refine Wl.guardF rfl rfl hb7 rfl ?_
        refine Wl.guardF rfl rfl hb7 rfl ?_
        refine Wl.guardF rfl rfl hb7 rfl ?_
        refine Wl.guardF rfl rfl hb7 rfl ?_
        refine wZ rg (o_pickT rfl hb7 (v := .bool true) rfl ?_)
        refine nZ ?_
        refine Vc.cond' rfl (fun _ => ?_) (fun hb => Bool.noConfusion hb)
        refine qZ (rZ ?_)
        refine asZ (.bool false) rfl ?_
        refine nZ ?_
        refine Vc.ret' ?_
        refine res_tmp (v := .bool false) rfl ?_
        refine res_nil ?_
        show Gives _ (.bool false) _
        exact gives_out hrg (VW.refl _) (hQ _ h)
      replace h := h.1 hb3
      refine Wl.guardF rfl rfl hb3 rfl ?_
      refine Wl.guardF rfl rfl hb3 rfl ?_
      refine Wl.guardF rfl rfl hb3 rfl ?_
      refine Wl.guardF rfl rfl hb3 rfl ?_
      refine Wl.guardF rfl rfl hb3 rfl ?_
      refine wZ rg (o_pickT rfl hb3 (v := .bool true) rfl ?_)
      refine nZ ?_
      refine Vc.cond' rfl (fun _ => ?_) (fun hb => Bool.noConfusion hb)
      refine qZ (rZ ?_)
      refine asZ (.bool false) rfl ?_
      refine nZ ?_
      refine Vc.ret' ?_
      refine res_tmp (v := .bool false) rfl ?_
      refine res_nil ?_
      show Gives _ (.bool false) _
      exact gives_out hrg (VW.refl _) (hQ _ h)
    replace h := h.1 hb2
    refine Wl.guardF rfl rfl hb2 rfl ?_
    refine wZ rg (o_pickT rfl hb2 (v := .bool true) rfl ?_)
    refine mvZ (.bool true) rfl ?_
    refine Wl.guardF rfl rfl rfl rfl ?_
    refine Wl.guardF rfl rfl rfl rfl ?_
    refine Wl.guardF rfl rfl rfl rfl ?_
    refine Wl.guardF rfl rfl rfl rfl ?_
    refine Wl.guardF rfl rfl rfl rfl ?_
    refine Wl.guardF rfl rfl rfl rfl ?_
    refine wZ rg (o_pickT rfl rfl (v := .bool true) rfl ?_)
    refine nZ ?_
    refine Vc.cond' rfl (fun _ => ?_) (fun hb => Bool.noConfusion hb)
    refine qZ (rZ ?_)
    refine asZ (.bool false) rfl ?_
    refine nZ ?_
    refine Vc.ret' ?_
    refine res_tmp (v := .bool false) rfl ?_
    refine res_nil ?_
    show Gives _ (.bool false) _
    exact gives_out hrg (VW.refl _) (hQ _ h)
  refine rZ ?_
  refine wZ rg (o_call (us := []) rfl (vn) (law50_awake_ctr h fun r24 h => ?_))
  refine wZ rg (o_not rfl ?_)
  refine mvZ (.bool (!r24)) rfl ?_
  refine Wl.guard rfl rfl (fun hb15 => ?_) (fun hb15 => ?_)
  · replace h := h.2 hb15
    refine wZ rg (o_faP td24 rfl rfl (by rw [sz22]; decide) rfl ?_)
    refine Wl.guardT rfl rfl hb15 ?_
    refine wZ rg (o_loadB1 (atL (k := 2) rfl) sz22 ag22 rfl rfl (v := eL eRat x.Fail) rfl ?_)
    refine Wl.guardT rfl rfl hb15 ?_
    refine wZ rg (o_call (us := [eL eRat x.Fail, AV.int .i64 5]) rfl (vl' vr (vl' vr (vn))) (law50_short_ctr h fun r25 h => ?_))
    refine Wl.guardT rfl rfl hb15 ?_
    refine wZ rg (o_not rfl ?_)
    refine wZ rg (o_pickF rfl hb15 (v := .bool (!r25)) rfl ?_)
    refine mvZ (.bool (!r25)) rfl ?_
    refine Wl.guard rfl rfl (fun hb16 => ?_) (fun hb16 => ?_)
    · replace h := h.2 hb16
      refine wZ rg (o_faP td24 rfl rfl (by rw [sz22]; decide) rfl ?_)
      refine Wl.guardT rfl rfl hb16 ?_
      refine wZ rg (o_loadB1 (atL (k := 2) rfl) sz22 ag22 rfl rfl (v := eL eRat x.Repair) rfl ?_)
      refine Wl.guardT rfl rfl hb16 ?_
      refine wZ rg (o_call (us := [eL eRat x.Repair, AV.int .i64 5]) rfl (vl' vr (vl' vr (vn))) (law50_short_ctr h fun r26 h => ?_))
      refine Wl.guardT rfl rfl hb16 ?_
      refine wZ rg (o_not rfl ?_)
      refine wZ rg (o_pickF rfl hb16 (v := .bool (!r26)) rfl ?_)
      refine mvZ (.bool (!r26)) rfl ?_
      refine Wl.guard rfl rfl (fun hb17 => ?_) (fun hb17 => ?_)
      · replace h := h.2 hb17
        refine wZ rg (o_loadBA (atL (k := 3) rfl) sz70 (by decide) ag70 rfl rfl (v := eFormula f) rfl ?_)
        refine Wl.guardT rfl rfl hb17 ?_
        refine wZ rg (o_call (us := [eFormula f]) rfl (vl' vr (vn)) (law08_Light_ctr h fun r27 h => ?_))
        refine Wl.guardT rfl rfl hb17 ?_
        refine wZ rg (o_not rfl ?_)
        refine wZ rg (o_pickF rfl hb17 (v := .bool (!r27)) rfl ?_)
        refine mvZ (.bool (!r27)) rfl ?_
        refine Wl.guard rfl rfl (fun hb18 => ?_) (fun hb18 => ?_)
        · replace h := h.2 hb18
          refine wZ rg (o_loadBA (atL (k := 3) rfl) sz70 (by decide) ag70 rfl rfl (v := eFormula f) rfl ?_)
          refine Wl.guardT rfl rfl hb18 ?_
          refine wZ rg (o_call (us := [eFormula f]) rfl (vl' vr (vn)) (formula_Check_ctr h fun r28 h => ?_))
          refine Wl.guardT rfl rfl hb18 ?_
          refine wZ rg (o_isnon td31 (E := 107) rfl rfl rfl ?_)
          refine wZ rg (o_pickF rfl hb18 (v := .bool (Option.isSome r28)) rfl ?_)
          refine mvZ (.bool (Option.isSome r28)) rfl ?_
          refine Wl.guard rfl rfl (fun hb19 => ?_) (fun hb19 => ?_)
          · replace h := h.2 hb19
            refine wZ rg (o_faP td70 rfl rfl (by rw [sz3]; decide) rfl ?_)
            refine Wl.guardT rfl rfl hb19 ?_
            refine wZ rg (o_loadB1 (atL (k := 3) rfl) sz3 ag3 rfl rfl (v := .int .i64 f.Vars) rfl ?_)
            refine Wl.guardT rfl rfl hb19 ?_
            refine mvZ (.int .i64 (x.Fail.length : Int)) rfl ?_
            refine Wl.guardT rfl rfl hb19 ?_
            refine wZ rg (o_neq rfl rfl ?_)
            refine wZ rg (o_pickF rfl hb19 (v := .bool (f.Vars != (x.Fail.length : Int))) rfl ?_)
            refine mvZ (.bool (f.Vars != (x.Fail.length : Int))) rfl ?_
            refine Wl.guard rfl rfl (fun hb20 => ?_) (fun hb20 => ?_)
            · replace h := h.2 hb20
              refine wZ rg (o_faP td70 rfl rfl (by rw [sz68]; decide) rfl ?_)
              refine Wl.guardT rfl rfl hb20 ?_
              refine wZ rg (o_loadB1 (atL (k := 3) rfl) sz68 ag68 rfl rfl (v := eL eNode f.Nodes) rfl ?_)
              refine Wl.guardT rfl rfl hb20 ?_
              refine wZ rg (o_len td68 rfl ?_)
              refine Wl.guardT rfl rfl hb20 ?_
              refine wZ rg (o_geq rfl rfl ?_)
              refine wZ rg (o_pickF rfl hb20 (v := .bool (decide (128 ≤ (f.Nodes.length : Int)))) rfl ?_)
              refine nZ ?_
              exact ⟨((decide (128 ≤ (f.Nodes.length : Int))), (g1, g2)), (canon (fc vr (fc vr (fc vr (fc vr (fn))))) (sc rfl (sc rfl (sn)))), h⟩
            replace h := h.1 hb20
            refine Wl.guardF rfl rfl hb20 rfl ?_
            refine Wl.guardF rfl rfl hb20 rfl ?_
            refine Wl.guardF rfl rfl hb20 rfl ?_
            refine wZ rg (o_pickT rfl hb20 (v := .bool true) rfl ?_)
            refine nZ ?_
            exact ⟨(true, (g1, g2)), (canon (fc vr (fc vr (fc vr (fc vr (fn))))) (sc rfl (sc rfl (sn)))), h⟩
          replace h := h.1 hb19
          refine Wl.guardF rfl rfl hb19 rfl ?_
          refine Wl.guardF rfl rfl hb19 rfl ?_
          refine Wl.guardF rfl rfl hb19 rfl ?_
          refine wZ rg (o_pickT rfl hb19 (v := .bool true) rfl ?_)
          refine mvZ (.bool true) rfl ?_
          refine Wl.guardF rfl rfl rfl rfl ?_
          refine Wl.guardF rfl rfl rfl rfl ?_
          refine Wl.guardF rfl rfl rfl rfl ?_
          refine Wl.guardF rfl rfl rfl rfl ?_
          refine wZ rg (o_pickT rfl rfl (v := .bool true) rfl ?_)
          refine nZ ?_
          exact ⟨(true, (g1, g2)), (canon (fc vr (fc vr (fc vr (fc vr (fn))))) (sc rfl (sc rfl (sn)))), h⟩
        replace h := h.1 hb18
        refine Wl.guardF rfl rfl hb18 rfl ?_
        refine Wl.guardF rfl rfl hb18 rfl ?_
        refine wZ rg (o_pickT rfl hb18 (v := .bool true) rfl ?_)
        refine mvZ (.bool true) rfl ?_
        refine Wl.guardF rfl rfl rfl rfl ?_
        refine Wl.guardF rfl rfl rfl rfl ?_
        refine Wl.guardF rfl rfl rfl rfl ?_
        refine Wl.guardF rfl rfl rfl rfl ?_
        refine wZ rg (o_pickT rfl rfl (v := .bool true) rfl ?_)
        refine mvZ (.bool true) rfl ?_
        refine Wl.guardF rfl rfl rfl rfl ?_
        refine Wl.guardF rfl rfl rfl rfl ?_
        refine Wl.guardF rfl rfl rfl rfl ?_
        refine Wl.guardF rfl rfl rfl rfl ?_
        refine wZ rg (o_pickT rfl rfl (v := .bool true) rfl ?_)
        refine nZ ?_
        exact ⟨(true, (g1, g2)), (canon (fc vr (fc vr (fc vr (fc vr (fn))))) (sc rfl (sc rfl (sn)))), h⟩
      replace h := h.1 hb17
      refine Wl.guardF rfl rfl hb17 rfl ?_
      refine Wl.guardF rfl rfl hb17 rfl ?_
      refine wZ rg (o_pickT rfl hb17 (v := .bool true) rfl ?_)
      refine mvZ (.bool true) rfl ?_
      refine Wl.guardF rfl rfl rfl rfl ?_
      refine Wl.guardF rfl rfl rfl rfl ?_
      refine Wl.guardF rfl rfl rfl rfl ?_
      refine wZ rg (o_pickT rfl rfl (v := .bool true) rfl ?_)
      refine mvZ (.bool true) rfl ?_
      refine Wl.guardF rfl rfl rfl rfl ?_
      refine Wl.guardF rfl rfl rfl rfl ?_
      refine Wl.guardF rfl rfl rfl rfl ?_
      refine Wl.guardF rfl rfl rfl rfl ?_
      refine wZ rg (o_pickT rfl rfl (v := .bool true) rfl ?_)
      refine mvZ (.bool true) rfl ?_
      refine Wl.guardF rfl rfl rfl rfl ?_
      refine Wl.guardF rfl rfl rfl rfl ?_
      refine Wl.guardF rfl rfl rfl rfl ?_
      refine Wl.guardF rfl rfl rfl rfl ?_
      refine wZ rg (o_pickT rfl rfl (v := .bool true) rfl ?_)
      refine nZ ?_
      exact ⟨(true, (g1, g2)), (canon (fc vr (fc vr (fc vr (fc vr (fn))))) (sc rfl (sc rfl (sn)))), h⟩
    replace h := h.1 hb16
    refine Wl.guardF rfl rfl hb16 rfl ?_
    refine Wl.guardF rfl rfl hb16 rfl ?_
    refine Wl.guardF rfl rfl hb16 rfl ?_
    refine wZ rg (o_pickT rfl hb16 (v := .bool true) rfl ?_)
    refine mvZ (.bool true) rfl ?_
    refine Wl.guardF rfl rfl rfl rfl ?_
    refine Wl.guardF rfl rfl rfl rfl ?_
    refine Wl.guardF rfl rfl rfl rfl ?_
    refine wZ rg (o_pickT rfl rfl (v := .bool true) rfl ?_)
    refine mvZ (.bool true) rfl ?_
    refine Wl.guardF rfl rfl rfl rfl ?_
    refine Wl.guardF rfl rfl rfl rfl ?_
    refine Wl.guardF rfl rfl rfl rfl ?_
    refine wZ rg (o_pickT rfl rfl (v := .bool true) rfl ?_)
    refine mvZ (.bool true) rfl ?_
    refine Wl.guardF rfl rfl rfl rfl ?_
    refine Wl.guardF rfl rfl rfl rfl ?_
    refine Wl.guardF rfl rfl rfl rfl ?_
    refine Wl.guardF rfl rfl rfl rfl ?_
    refine wZ rg (o_pickT rfl rfl (v := .bool true) rfl ?_)
    refine mvZ (.bool true) rfl ?_
    refine Wl.guardF rfl rfl rfl rfl ?_
    refine Wl.guardF rfl rfl rfl rfl ?_
    refine Wl.guardF rfl rfl rfl rfl ?_
    refine Wl.guardF rfl rfl rfl rfl ?_
    refine wZ rg (o_pickT rfl rfl (v := .bool true) rfl ?_)
    refine nZ ?_
    exact ⟨(true, (g1, g2)), (canon (fc vr (fc vr (fc vr (fc vr (fn))))) (sc rfl (sc rfl (sn)))), h⟩
  replace h := h.1 hb15
  refine Wl.guardF rfl rfl hb15 rfl ?_
  refine Wl.guardF rfl rfl hb15 rfl ?_
  refine Wl.guardF rfl rfl hb15 rfl ?_
  refine wZ rg (o_pickT rfl hb15 (v := .bool true) rfl ?_)
  refine mvZ (.bool true) rfl ?_
  refine Wl.guardF rfl rfl rfl rfl ?_
  refine Wl.guardF rfl rfl rfl rfl ?_
  refine Wl.guardF rfl rfl rfl rfl ?_
  refine Wl.guardF rfl rfl rfl rfl ?_
  refine wZ rg (o_pickT rfl rfl (v := .bool true) rfl ?_)
  refine mvZ (.bool true) rfl ?_
  refine Wl.guardF rfl rfl rfl rfl ?_
  refine Wl.guardF rfl rfl rfl rfl ?_
  refine Wl.guardF rfl rfl rfl rfl ?_
  refine wZ rg (o_pickT rfl rfl (v := .bool true) rfl ?_)
  refine mvZ (.bool true) rfl ?_
  refine Wl.guardF rfl rfl rfl rfl ?_
  refine Wl.guardF rfl rfl rfl rfl ?_
  refine Wl.guardF rfl rfl rfl rfl ?_
  refine wZ rg (o_pickT rfl rfl (v := .bool true) rfl ?_)
  refine mvZ (.bool true) rfl ?_
  refine Wl.guardF rfl rfl rfl rfl ?_
  refine Wl.guardF rfl rfl rfl rfl ?_
  refine Wl.guardF rfl rfl rfl rfl ?_
  refine Wl.guardF rfl rfl rfl rfl ?_
  refine wZ rg (o_pickT rfl rfl (v := .bool true) rfl ?_)
  refine mvZ (.bool true) rfl ?_
  refine Wl.guardF rfl rfl rfl rfl ?_
  refine Wl.guardF rfl rfl rfl rfl ?_
  refine Wl.guardF rfl rfl rfl rfl ?_
  refine Wl.guardF rfl rfl rfl rfl ?_
  refine wZ rg (o_pickT rfl rfl (v := .bool true) rfl ?_)
  refine nZ ?_
  exact ⟨(true, (g1, g2)), (canon (fc vr (fc vr (fc vr (fc vr (fn))))) (sc rfl (sc rfl (sn)))), h⟩
end Go.Proofs.Ytonbnfgknijpoaa
