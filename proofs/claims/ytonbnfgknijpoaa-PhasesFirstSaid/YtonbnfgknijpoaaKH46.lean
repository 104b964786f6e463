/- Walks of functions. Conditions: none. -/
import Derived.Test.YtonbnfgknijpoaaWH46
import Derived.Test.YtonbnfgknijpoaaGgTy
import Derived.Test.YtonbnfgknijpoaaKB
import Derived.Test.YtonbnfgknijpoaaKPphases
namespace Go.Proofs.Ytonbnfgknijpoaa
open Go.Gg
set_option maxRecDepth 100000
theorem law46_part_ctr {n : Int} {d : Int} {Q : GRat → Prop} {S : St} {R : AV → St → Prop} (h : law46_part_W n d Q) (hQ : ∀ r1, Q r1 → R (eRat r1) S) :
    Ctr Try.prog 124 [AV.int .i64 n, AV.int .i64 d] S R := by
  unfold law46_part_W at h
  refine enterT Try.func124 rfl Try.ntmps124 Try.results124 (by kernel_rfl) (fun rg hrg => ?_)
  refine qZ (rZ (wZ rg (o_alloc zav27 ok27 (kk := 3) rfl (fun g1 => (nZ (qZ (rZ (mvZ (.int .i64 n) rfl (mvZ (.int .i64 d) rfl (wZ rg (o_call (us := [AV.int .i64 n, AV.int .i64 d]) rfl (vl' vr (vl' vr (vn))) (ref02_Make_ctr h fun r r1 h => (mvZ (.tuple [eRat r, .int .i64 r1]) rfl (wZ rg (o_extract (v := eRat r) rfl rfl rfl (wZ rg (o_extract (v := .int .i64 r1) rfl rfl rfl ?_)))))))))))))))))
  refine wZ rg (o_alloc zav27 ok27 (kk := 3) rfl (fun g2 => (wZ rg (o_storeB (atL (k := 5) rfl) sz27 (by decide) rfl (w := eRat r) rfl rfl rfl (v := eRat r) rfl setL (asZ (.int .i64 r1) rfl (nZ (qZ (rZ (wZ rg (o_loadBA (atL (k := 5) rfl) sz27 (by decide) ag27 rfl rfl (v := eRat r) rfl (wZ rg (o_storeB (atL (k := 4) rfl) sz27 (by decide) rfl (w := eRat r) rfl rfl rfl (v := eRat r) rfl setL (nZ ?_)))))))))))))
  refine Vc.ret' ?_
  refine res_cellA (atL (k := 4) rfl) sz27 (by decide) ag27 rfl rfl (v := eRat r) rfl (res_nil ?_)
  show Gives _ (eRat r) _
  exact gives_out hrg (VW.refl _) (hQ _ h)
theorem law46_example_ctr {Q : GMission → Prop} {S : St} {R : AV → St → Prop} (h : law46_example_W Q) (hQ : ∀ r1, Q r1 → R (eMission r1) S) :
    Ctr Try.prog 123 [] S R := by
  unfold law46_example_W at h
  refine enterT Try.func123 rfl Try.ntmps123 Try.results123 (by kernel_rfl) (fun rg hrg => ?_)
  refine qZ (rZ (wZ rg (o_alloc zav94 ok94 (kk := 2) rfl (fun g1 => (nZ (qZ (rZ (wZ rg (o_bslice td76 ok3 zav3 (es := [.int .i64 0, .int .i64 1]) rfl (kk := 1) rfl rfl rfl rfl rfl rfl (fun g2 => (wZ rg (o_build td78 zav78 bok78 szs78 sz78 (ps := [(0, .int .i64 2), (2, .sl 1 rg 4 g2 0 ([0, 1].length))]) rfl rfl (v := .agg [.int .i64 2, .int .i64 0, .sl 1 rg 4 g2 0 ([0, 1].length)]) rfl ?_))))))))))))
  refine Wl.wk (canon_freeze (k := 4) (xs := List.map (AV.int .i64) [0, 1]) rfl (es := [(0, .ptr rg 0 g1 0 0), (5, .agg [.int .i64 2, .int .i64 0, eL (AV.int .i64) [0, 1]])]) (fc vr (fc (VW.aggL (vl' vr (vl' vr (vl' (frz_full rfl) (vn))))) (fn))) (m := [(0, .arr 2 [.agg [.nil, .nil]], g1)]) (sc rfl (sn))) ?_
  refine wZ rg (o_bslice td68 ok78 zav78 (es := [.agg [.int .i64 2, .int .i64 0, eL (AV.int .i64) [0, 1]]]) rfl (kk := 3) rfl rfl rfl rfl rfl rfl (fun g4 => (wZ rg (o_build td70 zav70 bok70 szs70 sz70 (ps := [(0, .int .i64 2), (1, .sl 3 rg 6 g4 0 ([(⟨2, 0, [0, 1]⟩ : GNode)].length)), (2, .int .i64 2)]) rfl rfl (v := .agg [.int .i64 2, .sl 3 rg 6 g4 0 ([(⟨2, 0, [0, 1]⟩ : GNode)].length), .int .i64 2]) rfl ?_))))
  refine wZ rg (o_alloc zav70 ok70 (kk := 3) rfl (fun g5 => (wZ rg (o_storeB (atL (k := 1) rfl) sz70 (by decide) rfl (w := .agg [.int .i64 2, .sl 3 rg 6 g4 0 ([(⟨2, 0, [0, 1]⟩ : GNode)].length), .int .i64 2]) rfl rfl rfl (v := .agg [.int .i64 2, .sl 3 rg 6 g4 0 ([(⟨2, 0, [0, 1]⟩ : GNode)].length), .int .i64 2]) rfl setL (nZ (qZ (rZ ?_)))))))
  refine wZ rg (o_bslice td76 ok3 zav3 (es := [.int .i64 0, .int .i64 1]) rfl (kk := 1) rfl rfl rfl rfl rfl rfl (fun g6 => (wZ rg (o_build td78 zav78 bok78 szs78 sz78 (ps := [(0, .int .i64 3), (2, .sl 1 rg 8 g6 0 ([0, 1].length))]) rfl rfl (v := .agg [.int .i64 3, .int .i64 0, .sl 1 rg 8 g6 0 ([0, 1].length)]) rfl ?_))))
  refine Wl.wk (canon_freeze (k := 8) (xs := List.map (AV.int .i64) [0, 1]) rfl (es := [(0, .ptr rg 0 g1 0 0), (1, .ptr rg 1 g5 0 0), (9, .agg [.int .i64 3, .int .i64 0, eL (AV.int .i64) [0, 1]])]) (fc vr (fc vr (fc (VW.aggL (vl' vr (vl' vr (vl' (frz_full rfl) (vn))))) (fn)))) (m := [(0, .arr 2 [.agg [.nil, .nil]], g1), (1, .arr 3 [.agg [.int .i64 2, .sl 3 rg 6 g4 0 ([(⟨2, 0, [0, 1]⟩ : GNode)].length), .int .i64 2]], g5), (6, .arr 3 (List.map eNode [(⟨2, 0, [0, 1]⟩ : GNode)]), g4)]) (sc rfl (sc rfl (sc rfl (sn))))) ?_
  refine wZ rg (o_bslice td68 ok78 zav78 (es := [.agg [.int .i64 3, .int .i64 0, eL (AV.int .i64) [0, 1]]]) rfl (kk := 3) rfl rfl rfl rfl rfl rfl (fun g8 => ?_))
  refine wZ rg (o_build td70 zav70 bok70 szs70 sz70 (ps := [(0, .int .i64 2), (1, .sl 3 rg 10 g8 0 ([(⟨3, 0, [0, 1]⟩ : GNode)].length)), (2, .int .i64 2)]) rfl rfl (v := .agg [.int .i64 2, .sl 3 rg 10 g8 0 ([(⟨3, 0, [0, 1]⟩ : GNode)].length), .int .i64 2]) rfl (wZ rg (o_alloc zav70 ok70 (kk := 3) rfl (fun g9 => ?_))))
  refine wZ rg (o_storeB (atL (k := 2) rfl) sz70 (by decide) rfl (w := .agg [.int .i64 2, .sl 3 rg 10 g8 0 ([(⟨3, 0, [0, 1]⟩ : GNode)].length), .int .i64 2]) rfl rfl rfl (v := .agg [.int .i64 2, .sl 3 rg 10 g8 0 ([(⟨3, 0, [0, 1]⟩ : GNode)].length), .int .i64 2]) rfl setL (nZ (qZ (rZ (wZ rg (o_call (us := [AV.int .i64 1, AV.int .i64 2]) rfl (vl' vr (vl' vr (vn))) (law46_part_ctr h fun r h => ?_)))))))
  refine wZ rg (o_alloc zav27 ok27 (kk := 3) rfl (fun g10 => (wZ rg (o_storeB (atL (k := 3) rfl) sz27 (by decide) rfl (w := eRat r) rfl rfl rfl (v := eRat r) rfl setL (nZ (qZ (rZ (wZ rg (o_loadBA (atL (k := 1) rfl) sz70 (by decide) ag70 rfl rfl (v := .agg [.int .i64 2, .sl 3 rg 6 g4 0 ([(⟨2, 0, [0, 1]⟩ : GNode)].length), .int .i64 2]) rfl ?_)))))))))
  refine wZ rg (o_loadBA (atL (k := 2) rfl) sz70 (by decide) ag70 rfl rfl (v := .agg [.int .i64 2, .sl 3 rg 10 g8 0 ([(⟨3, 0, [0, 1]⟩ : GNode)].length), .int .i64 2]) rfl ?_)
  refine Wl.wk (canon_freeze (k := 6) (xs := List.map eNode [(⟨2, 0, [0, 1]⟩ : GNode)]) rfl (es := [(0, .ptr rg 0 g1 0 0), (3, .ptr rg 3 g10 0 0), (13, .agg [.int .i64 2, eL eNode [(⟨2, 0, [0, 1]⟩ : GNode)], .int .i64 2]), (14, .agg [.int .i64 2, .sl 3 rg 10 g8 0 ([(⟨3, 0, [0, 1]⟩ : GNode)].length), .int .i64 2])]) (fc vr (fc vr (fc (VW.aggL (vl' vr (vl' (frz_full rfl) (vl' vr (vn))))) (fc (VW.aggL (vl' vr (vl' (frz_ne rfl) (vl' vr (vn))))) (fn))))) (m := [(0, .arr 2 [.agg [.nil, .nil]], g1), (3, .arr 3 [eRat r], g10), (10, .arr 3 (List.map eNode [(⟨3, 0, [0, 1]⟩ : GNode)]), g8)]) (sc rfl (sc rfl (sc rfl (sn))))) ?_
  refine Wl.wk (canon_freeze (k := 10) (xs := List.map eNode [(⟨3, 0, [0, 1]⟩ : GNode)]) rfl (es := [(0, .ptr rg 0 g1 0 0), (3, .ptr rg 3 g10 0 0), (13, .agg [.int .i64 2, eL eNode [(⟨2, 0, [0, 1]⟩ : GNode)], .int .i64 2]), (14, .agg [.int .i64 2, eL eNode [(⟨3, 0, [0, 1]⟩ : GNode)], .int .i64 2])]) (fc vr (fc vr (fc vr (fc (VW.aggL (vl' vr (vl' (frz_full rfl) (vl' vr (vn))))) (fn))))) (m := [(0, .arr 2 [.agg [.nil, .nil]], g1), (3, .arr 3 [eRat r], g10)]) (sc rfl (sc rfl (sn)))) ?_
  refine wZ rg (o_bslice td91 ok70 zav70 (es := [.agg [.int .i64 2, eL eNode [(⟨2, 0, [0, 1]⟩ : GNode)], .int .i64 2], .agg [.int .i64 2, eL eNode [(⟨3, 0, [0, 1]⟩ : GNode)], .int .i64 2]]) rfl (kk := 3) rfl rfl rfl rfl rfl rfl (fun g13 => (wZ rg (o_loadBA (atL (k := 3) rfl) sz27 (by decide) ag27 rfl rfl (v := eRat r) rfl ?_))))
  refine wZ rg (o_loadBA (atL (k := 3) rfl) sz27 (by decide) ag27 rfl rfl (v := eRat r) rfl (wZ rg (o_bslice td22 ok27 zav27 (es := [eRat r, eRat r]) rfl (kk := 3) rfl rfl rfl rfl rfl rfl (fun g14 => (wZ rg (o_loadBA (atL (k := 3) rfl) sz27 (by decide) ag27 rfl rfl (v := eRat r) rfl (wZ rg (o_loadBA (atL (k := 3) rfl) sz27 (by decide) ag27 rfl rfl (v := eRat r) rfl ?_))))))))
  refine wZ rg (o_bslice td22 ok27 zav27 (es := [eRat r, eRat r]) rfl (kk := 3) rfl rfl rfl rfl rfl rfl (fun g15 => ?_))
  refine Wl.wk (canon_freeze (k := 18) (xs := List.map eRat [r, r]) rfl (es := [(0, .ptr rg 0 g1 0 0), (15, .sl 3 rg 15 g13 0 ([(⟨2, [(⟨2, 0, [0, 1]⟩ : GNode)], 2⟩ : GFormula), (⟨2, [(⟨3, 0, [0, 1]⟩ : GNode)], 2⟩ : GFormula)].length)), (18, eL eRat [r, r]), (21, .sl 3 rg 21 g15 0 ([r, r].length))]) (fc vr (fc (frz_ne rfl) (fc (frz_full rfl) (fc (frz_ne rfl) (fn))))) (m := [(0, .arr 2 [.agg [.nil, .nil]], g1), (15, .arr 3 (List.map eFormula [(⟨2, [(⟨2, 0, [0, 1]⟩ : GNode)], 2⟩ : GFormula), (⟨2, [(⟨3, 0, [0, 1]⟩ : GNode)], 2⟩ : GFormula)]), g13), (21, .arr 3 (List.map eRat [r, r]), g15)]) (sc rfl (sc rfl (sc rfl (sn))))) ?_
  refine Wl.wk (canon_freeze (k := 21) (xs := List.map eRat [r, r]) rfl (es := [(0, .ptr rg 0 g1 0 0), (15, .sl 3 rg 15 g13 0 ([(⟨2, [(⟨2, 0, [0, 1]⟩ : GNode)], 2⟩ : GFormula), (⟨2, [(⟨3, 0, [0, 1]⟩ : GNode)], 2⟩ : GFormula)].length)), (18, eL eRat [r, r]), (21, eL eRat [r, r])]) (fc vr (fc (frz_ne rfl) (fc vr (fc (frz_full rfl) (fn))))) (m := [(0, .arr 2 [.agg [.nil, .nil]], g1), (15, .arr 3 (List.map eFormula [(⟨2, [(⟨2, 0, [0, 1]⟩ : GNode)], 2⟩ : GFormula), (⟨2, [(⟨3, 0, [0, 1]⟩ : GNode)], 2⟩ : GFormula)]), g13)]) (sc rfl (sc rfl (sn)))) ?_
  refine wZ rg (o_bslice td92 ok22 zav22 (es := [eL eRat [r, r], eL eRat [r, r]]) rfl (kk := 1) rfl rfl rfl rfl rfl rfl (fun g18 => ?_))
  refine wZ rg (o_build td94 zav94 bok94 szs94 sz94 (ps := [(0, .sl 3 rg 15 g13 0 ([(⟨2, [(⟨2, 0, [0, 1]⟩ : GNode)], 2⟩ : GFormula), (⟨2, [(⟨3, 0, [0, 1]⟩ : GNode)], 2⟩ : GFormula)].length)), (1, .sl 1 rg 22 g18 0 ([[r, r], [r, r]].length))]) rfl rfl (v := .agg [.sl 3 rg 15 g13 0 ([(⟨2, [(⟨2, 0, [0, 1]⟩ : GNode)], 2⟩ : GFormula), (⟨2, [(⟨3, 0, [0, 1]⟩ : GNode)], 2⟩ : GFormula)].length), .sl 1 rg 22 g18 0 ([[r, r], [r, r]].length)]) rfl ?_)
  refine wZ rg (o_storeB (atL (k := 0) rfl) sz94 (by decide) rfl (w := .agg [.sl 3 rg 15 g13 0 ([(⟨2, [(⟨2, 0, [0, 1]⟩ : GNode)], 2⟩ : GFormula), (⟨2, [(⟨3, 0, [0, 1]⟩ : GNode)], 2⟩ : GFormula)].length), .sl 1 rg 22 g18 0 ([[r, r], [r, r]].length)]) rfl rfl rfl (v := .agg [.sl 3 rg 15 g13 0 ([(⟨2, [(⟨2, 0, [0, 1]⟩ : GNode)], 2⟩ : GFormula), (⟨2, [(⟨3, 0, [0, 1]⟩ : GNode)], 2⟩ : GFormula)].length), .sl 1 rg 22 g18 0 ([[r, r], [r, r]].length)]) rfl setL ?_)
  refine nZ ?_
  refine Vc.ret' ?_
  refine res_cellA (atL (k := 0) rfl) sz94 (by decide) ag94 rfl rfl (v := .agg [.sl 3 rg 15 g13 0 ([(⟨2, [(⟨2, 0, [0, 1]⟩ : GNode)], 2⟩ : GFormula), (⟨2, [(⟨3, 0, [0, 1]⟩ : GNode)], 2⟩ : GFormula)].length), .sl 1 rg 22 g18 0 ([[r, r], [r, r]].length)]) rfl (res_nil ?_)
  show Gives _ (.agg [.sl 3 rg 15 g13 0 ([(⟨2, [(⟨2, 0, [0, 1]⟩ : GNode)], 2⟩ : GFormula), (⟨2, [(⟨3, 0, [0, 1]⟩ : GNode)], 2⟩ : GFormula)].length), .sl 1 rg 22 g18 0 ([[r, r], [r, r]].length)]) _
  refine gives_freeze (k := 15) (xs := List.map eFormula [(⟨2, [(⟨2, 0, [0, 1]⟩ : GNode)], 2⟩ : GFormula), (⟨2, [(⟨3, 0, [0, 1]⟩ : GNode)], 2⟩ : GFormula)]) rfl (v' := .agg [eL eFormula [(⟨2, [(⟨2, 0, [0, 1]⟩ : GNode)], 2⟩ : GFormula), (⟨2, [(⟨3, 0, [0, 1]⟩ : GNode)], 2⟩ : GFormula)], .sl 1 rg 22 g18 0 ([[r, r], [r, r]].length)]) (VW.aggL (vl' (frz_full rfl) (vl' (frz_ne rfl) (vn)))) ?_
  refine gives_freeze (k := 22) (xs := List.map (eL eRat) [[r, r], [r, r]]) rfl (v' := .agg [eL eFormula [(⟨2, [(⟨2, 0, [0, 1]⟩ : GNode)], 2⟩ : GFormula), (⟨2, [(⟨3, 0, [0, 1]⟩ : GNode)], 2⟩ : GFormula)], eL (eL eRat) [[r, r], [r, r]]]) (VW.aggL (vl' vr (vl' (frz_full rfl) (vn)))) ?_
  exact gives_out hrg (VW.refl _) (hQ _ h)
theorem law46_awake_ctr {Q : Bool → Prop} {S : St} {R : AV → St → Prop} (h : law46_awake_W Q) (hQ : ∀ r1, Q r1 → R (AV.bool r1) S) :
    Ctr Try.prog 56 [] S R := by
  unfold law46_awake_W at h
  refine enterT Try.func56 rfl Try.ntmps56 Try.results56 (by kernel_rfl) (fun rg hrg => ?_)
  refine qZ (rZ (asZ (.bool false) rfl (nZ (qZ (rZ (wZ rg (o_bslice td76 ok3 zav3 (es := [.int .i64 1, .int .i64 2]) rfl (kk := 1) rfl rfl rfl rfl rfl rfl (fun g1 => (asZ (.sl 1 rg 11 g1 0 ([1, 2].length)) rfl (nZ (qZ (rZ (wZ rg (o_call (us := []) rfl (vn) (law46_example_ctr h fun r h => (mvZ (.sl 1 rg 11 g1 0 ([1, 2].length)) rfl ?_))))))))))))))))
  refine Wl.wk (canon_freeze (k := 11) (xs := List.map (AV.int .i64) [1, 2]) rfl (es := [(1, eL (AV.int .i64) [1, 2]), (13, eMission r), (14, eL (AV.int .i64) [1, 2])]) (fc (frz_full rfl) (fc vr (fc (frz_full rfl) (fn)))) (m := []) (sn)) ?_
  refine wZ rg (o_call (us := [eMission r, eL (AV.int .i64) [1, 2]]) rfl (vl' vr (vl' vr (vn))) (phases_Fails_ctr h fun r1 r2 h => (mvZ (.tuple [.int .i64 r1, eErr 107 r2]) rfl (wZ rg (o_extract (v := .int .i64 r1) rfl rfl rfl (wZ rg (o_extract (v := eErr 107 r2) rfl rfl rfl (asZ (.int .i64 r1) rfl (asZ (eErr 107 r2) rfl (nZ (qZ (rZ ?_))))))))))))
  refine wZ rg (o_call (us := []) rfl (vn) (law46_example_ctr h fun r3 h => (mvZ (eL (AV.int .i64) [1, 2]) rfl (wZ rg (o_call (us := [eMission r3, eL (AV.int .i64) [1, 2]]) rfl (vl' vr (vl' vr (vn))) (phases_State_ctr h fun r4 r5 h => (mvZ (.tuple [.int .i64 r4, eErr 107 r5]) rfl (wZ rg (o_extract (v := .int .i64 r4) rfl rfl rfl (wZ rg (o_extract (v := eErr 107 r5) rfl rfl rfl ?_)))))))))))
  refine asZ (.int .i64 r4) rfl (asZ (eErr 107 r5) rfl (nZ (qZ (rZ (wZ rg (o_call (us := []) rfl (vn) (law46_example_ctr h fun r6 h => (mvZ (eL (AV.int .i64) [1, 2]) rfl (wZ rg (o_call (us := [eMission r6, eL (AV.int .i64) [1, 2]]) rfl (vl' vr (vl' vr (vn))) (phases_Weight_ctr h fun r7 r8 h => (mvZ (.tuple [eRat r7, eErr 107 r8]) rfl (wZ rg (o_extract (v := eRat r7) rfl rfl rfl ?_))))))))))))))
  refine wZ rg (o_extract (v := eErr 107 r8) rfl rfl rfl (wZ rg (o_alloc zav27 ok27 (kk := 3) rfl (fun g2 => (wZ rg (o_storeB (atL (k := 6) rfl) sz27 (by decide) rfl (w := eRat r7) rfl rfl rfl (v := eRat r7) rfl setL (asZ (eErr 107 r8) rfl (nZ (qZ (rZ (wZ rg (o_call (us := []) rfl (vn) (law46_example_ctr h fun r9 h => ?_)))))))))))))
  refine wZ rg (o_call (us := [eMission r9]) rfl (vl' vr (vn)) (phases_Unfold_ctr h fun r10 r11 r12 h => (mvZ (.tuple [eFormula r10, eL eRat r11, eErr 107 r12]) rfl (wZ rg (o_extract (v := eFormula r10) rfl rfl rfl (wZ rg (o_extract (v := eL eRat r11) rfl rfl rfl (wZ rg (o_extract (v := eErr 107 r12) rfl rfl rfl (wZ rg (o_alloc zav70 ok70 (kk := 3) rfl (fun g3 => ?_))))))))))))
  refine wZ rg (o_storeB (atL (k := 8) rfl) sz70 (by decide) rfl (w := eFormula r10) rfl rfl rfl (v := eFormula r10) rfl setL (asZ (eL eRat r11) rfl (asZ (eErr 107 r12) rfl (nZ (qZ ?_)))))
  rcases Bool.eq_false_or_eq_true (Option.isNone r2) with hb | hb
  · replace h := h.1 hb
    rcases Bool.eq_false_or_eq_true (Option.isNone r5) with hb1 | hb1
    · replace h := h.1 hb1
      rcases Bool.eq_false_or_eq_true (Option.isNone r8) with hb2 | hb2
      · replace h := h.1 hb2
        rcases Bool.eq_false_or_eq_true (Option.isNone r12) with hb3 | hb3
        · replace h := h.1 hb3
          rcases Bool.eq_false_or_eq_true (r1 == 1) with hb4 | hb4
          · replace h := h.1 hb4
            rcases Bool.eq_false_or_eq_true (r4 == 2) with hb5 | hb5
            · replace h := h.1 hb5
              obtain ⟨r13, hc, h⟩ := h
              obtain ⟨r14, hc1, h⟩ := h
              rcases Bool.eq_false_or_eq_true r14 with hb6 | hb6
              · replace h := h.1 hb6
                rcases Bool.eq_false_or_eq_true (r10.Vars == 4) with hb7 | hb7
                · replace h := h.1 hb7
                  rcases Bool.eq_false_or_eq_true ((r10.Nodes.length : Int) == 5) with hb8 | hb8
                  · replace h := h.1 hb8
                    refine Vc.drawn' mixed rg (usOf [(24, pc (eRat r13)), (25, pc (.bool r14))]) (by kernel_rfl) ?_
                    refine dP rfl rfl (o_move (v := eErr 107 r2) rfl (dP rfl rfl (o_isnil td31 (E := 107) rfl rfl rfl (dP rfl rfl (o_move (v := .bool (Option.isNone r2)) rfl ?_)))))
                    refine dGT rfl rfl hb ?_
                    refine dP rfl rfl (o_move (v := eErr 107 r5) rfl ?_)
                    refine dGT rfl rfl rfl ?_
                    refine dP rfl rfl (o_isnil td31 (E := 107) rfl rfl rfl (dP rfl rfl (o_pickT rfl rfl (v := .bool (Option.isNone r5)) rfl (dP rfl rfl (o_move (v := .bool (Option.isNone r5)) rfl ?_)))))
                    refine dGT rfl rfl hb1 ?_
                    refine dP rfl rfl (o_move (v := eErr 107 r8) rfl ?_)
                    refine dGT rfl rfl rfl ?_
                    refine dP rfl rfl (o_isnil td31 (E := 107) rfl rfl rfl (dP rfl rfl (o_pickT rfl rfl (v := .bool (Option.isNone r8)) rfl (dP rfl rfl (o_move (v := .bool (Option.isNone r8)) rfl ?_)))))
                    refine dGT rfl rfl hb2 ?_
                    refine dP rfl rfl (o_move (v := eErr 107 r12) rfl ?_)
                    refine dGT rfl rfl rfl ?_
                    refine dP rfl rfl (o_isnil td31 (E := 107) rfl rfl rfl (dP rfl rfl (o_pickT rfl rfl (v := .bool (Option.isNone r12)) rfl (dP rfl rfl (o_move (v := .bool (Option.isNone r12)) rfl ?_)))))
                    refine dGT rfl rfl hb3 ?_
                    refine dP rfl rfl (o_move (v := .int .i64 r1) rfl ?_)
                    refine dGT rfl rfl rfl ?_
                    refine dP rfl rfl (o_eql rfl rfl (dP rfl rfl (o_pickT rfl rfl (v := .bool (r1 == 1)) rfl (dP rfl rfl (o_move (v := .bool (r1 == 1)) rfl ?_)))))
                    refine dGT rfl rfl hb4 ?_
                    refine dP rfl rfl (o_move (v := .int .i64 r4) rfl ?_)
                    refine dGT rfl rfl rfl ?_
                    refine dP rfl rfl (o_eql rfl rfl (dP rfl rfl (o_pickT rfl rfl (v := .bool (r4 == 2)) rfl (dP rfl rfl (o_move (v := .bool (r4 == 2)) rfl ?_)))))
                    refine dGT rfl rfl hb5 ?_
                    refine dL (E := ([(rg, 6)], [])) rfl rfl (by simp) (cfn) (o_loadBA (atL (k := 6) rfl) sz27 (by decide) ag27 rfl rfl (v := eRat r7) rfl ?_)
                    refine dGT rfl rfl rfl ?_
                    refine dC (vs := [AV.int .i64 1, AV.int .i64 16]) rfl (vl' vr (vl' vr (vn))) (fun _ => law46_part_ctr hc (fun _ hr => ⟨by rw [hr], rfl⟩)) rfl ?_
                    refine dGT rfl rfl rfl ?_
                    refine dC (vs := [eRat r7, eRat r13]) rfl (vl' vr (vl' vr (vn))) (fun _ => base_Rat_ctr hc1 (fun _ hr => ⟨by rw [hr], rfl⟩)) rfl ?_
                    refine dP rfl rfl (o_pickT rfl rfl (v := .bool r14) rfl (dP rfl rfl (o_move (v := .bool r14) rfl ?_)))
                    refine dGT rfl rfl hb6 ?_
                    refine dP rfl rfl (o_faP td70 rfl rfl (by rw [sz3]; decide) rfl ?_)
                    refine dGT rfl rfl rfl ?_
                    refine dL (E := ([(rg, 8)], [])) rfl rfl (by simp) (cfo (by kernel_rfl) (cfn)) (o_loadB1 (atL (k := 8) rfl) sz3 ag3 rfl rfl (v := .int .i64 r10.Vars) rfl ?_)
                    refine dGT rfl rfl rfl ?_
                    refine dP rfl rfl (o_eql rfl rfl (dP rfl rfl (o_pickT rfl rfl (v := .bool (r10.Vars == 4)) rfl (dP rfl rfl (o_move (v := .bool (r10.Vars == 4)) rfl ?_)))))
                    refine dGT rfl rfl hb7 ?_
                    refine dP rfl rfl (o_faP td70 rfl rfl (by rw [sz68]; decide) rfl ?_)
                    refine dGT rfl rfl rfl ?_
                    refine dL (E := ([(rg, 8)], [])) rfl rfl (by simp) (cfo (by kernel_rfl) (cfo (by kernel_rfl) (cfn))) (o_loadB1 (atL (k := 8) rfl) sz68 ag68 rfl rfl (v := eL eNode r10.Nodes) rfl ?_)
                    refine dGT rfl rfl rfl ?_
                    refine dP rfl rfl (o_len td68 rfl ?_)
                    refine dGT rfl rfl rfl ?_
                    refine dP rfl rfl (o_eql rfl rfl (dP rfl rfl (o_pickT rfl rfl (v := .bool ((r10.Nodes.length : Int) == 5)) rfl (dP rfl rfl (o_move (v := .bool ((r10.Nodes.length : Int) == 5)) rfl ?_)))))
                    refine dGT rfl rfl hb8 ?_
                    refine dP rfl rfl (o_faP td70 rfl rfl (by rw [sz3]; decide) rfl ?_)
                    refine dGT rfl rfl rfl ?_
                    refine dL (E := ([(rg, 8)], [])) rfl rfl (by simp) (cfo (by kernel_rfl) (cfo (by kernel_rfl) (cfo (by kernel_rfl) (cfn)))) (o_loadB1 (atL (k := 8) rfl) sz3 ag3 rfl rfl (v := .int .i64 r10.Top) rfl ?_)
                    refine dGT rfl rfl rfl ?_
                    refine dP rfl rfl (o_eql rfl rfl (dP rfl rfl (o_pickT rfl rfl (v := .bool (r10.Top == 8)) rfl (dP rfl rfl (o_assign (v := .bool (r10.Top == 8)) rfl (dN ?_))))))
                    refine Vc.ret' ?_
                    refine res_tmp (v := .bool (r10.Top == 8)) rfl (res_nil ?_)
                    show Gives _ (.bool (r10.Top == 8)) _
                    exact gives_out hrg (VW.refl _) (hQ _ h)
                  replace h := h.2 hb8
                  refine Vc.drawn' mixed rg (usOf [(24, pc (eRat r13)), (25, pc (.bool r14))]) (by kernel_rfl) ?_
                  refine dP rfl rfl (o_move (v := eErr 107 r2) rfl (dP rfl rfl (o_isnil td31 (E := 107) rfl rfl rfl (dP rfl rfl (o_move (v := .bool (Option.isNone r2)) rfl ?_)))))
                  refine dGT rfl rfl hb ?_
                  refine dP rfl rfl (o_move (v := eErr 107 r5) rfl ?_)
                  refine dGT rfl rfl rfl ?_
                  refine dP rfl rfl (o_isnil td31 (E := 107) rfl rfl rfl (dP rfl rfl (o_pickT rfl rfl (v := .bool (Option.isNone r5)) rfl (dP rfl rfl (o_move (v := .bool (Option.isNone r5)) rfl ?_)))))
                  refine dGT rfl rfl hb1 ?_
                  refine dP rfl rfl (o_move (v := eErr 107 r8) rfl ?_)
                  refine dGT rfl rfl rfl ?_
                  refine dP rfl rfl (o_isnil td31 (E := 107) rfl rfl rfl (dP rfl rfl (o_pickT rfl rfl (v := .bool (Option.isNone r8)) rfl (dP rfl rfl (o_move (v := .bool (Option.isNone r8)) rfl ?_)))))
                  refine dGT rfl rfl hb2 ?_
                  refine dP rfl rfl (o_move (v := eErr 107 r12) rfl ?_)
                  refine dGT rfl rfl rfl ?_
                  refine dP rfl rfl (o_isnil td31 (E := 107) rfl rfl rfl (dP rfl rfl (o_pickT rfl rfl (v := .bool (Option.isNone r12)) rfl (dP rfl rfl (o_move (v := .bool (Option.isNone r12)) rfl ?_)))))
                  refine dGT rfl rfl hb3 ?_
                  refine dP rfl rfl (o_move (v := .int .i64 r1) rfl ?_)
                  refine dGT rfl rfl rfl ?_
                  refine dP rfl rfl (o_eql rfl rfl (dP rfl rfl (o_pickT rfl rfl (v := .bool (r1 == 1)) rfl (dP rfl rfl (o_move (v := .bool (r1 == 1)) rfl ?_)))))
                  refine dGT rfl rfl hb4 ?_
                  refine dP rfl rfl (o_move (v := .int .i64 r4) rfl ?_)
                  refine dGT rfl rfl rfl ?_
                  refine dP rfl rfl (o_eql rfl rfl (dP rfl rfl (o_pickT rfl rfl (v := .bool (r4 == 2)) rfl (dP rfl rfl (o_move (v := .bool (r4 == 2)) rfl ?_)))))
                  refine dGT rfl rfl hb5 ?_
                  refine dL (E := ([(rg, 6)], [])) rfl rfl (by simp) (cfn) (o_loadBA (atL (k := 6) rfl) sz27 (by decide) ag27 rfl rfl (v := eRat r7) rfl ?_)
                  refine dGT rfl rfl rfl ?_
                  refine dC (vs := [AV.int .i64 1, AV.int .i64 16]) rfl (vl' vr (vl' vr (vn))) (fun _ => law46_part_ctr hc (fun _ hr => ⟨by rw [hr], rfl⟩)) rfl ?_
                  refine dGT rfl rfl rfl ?_
                  refine dC (vs := [eRat r7, eRat r13]) rfl (vl' vr (vl' vr (vn))) (fun _ => base_Rat_ctr hc1 (fun _ hr => ⟨by rw [hr], rfl⟩)) rfl ?_
                  refine dP rfl rfl (o_pickT rfl rfl (v := .bool r14) rfl (dP rfl rfl (o_move (v := .bool r14) rfl ?_)))
                  refine dGT rfl rfl hb6 ?_
                  refine dP rfl rfl (o_faP td70 rfl rfl (by rw [sz3]; decide) rfl ?_)
                  refine dGT rfl rfl rfl ?_
                  refine dL (E := ([(rg, 8)], [])) rfl rfl (by simp) (cfo (by kernel_rfl) (cfn)) (o_loadB1 (atL (k := 8) rfl) sz3 ag3 rfl rfl (v := .int .i64 r10.Vars) rfl ?_)
                  refine dGT rfl rfl rfl ?_
                  refine dP rfl rfl (o_eql rfl rfl (dP rfl rfl (o_pickT rfl rfl (v := .bool (r10.Vars == 4)) rfl (dP rfl rfl (o_move (v := .bool (r10.Vars == 4)) rfl ?_)))))
                  refine dGT rfl rfl hb7 ?_
                  refine dP rfl rfl (o_faP td70 rfl rfl (by rw [sz68]; decide) rfl ?_)
                  refine dGT rfl rfl rfl ?_
                  refine dL (E := ([(rg, 8)], [])) rfl rfl (by simp) (cfo (by kernel_rfl) (cfo (by kernel_rfl) (cfn))) (o_loadB1 (atL (k := 8) rfl) sz68 ag68 rfl rfl (v := eL eNode r10.Nodes) rfl ?_)
                  refine dGT rfl rfl rfl ?_
                  refine dP rfl rfl (o_len td68 rfl ?_)
                  refine dGT rfl rfl rfl ?_
                  refine dP rfl rfl (o_eql rfl rfl (dP rfl rfl (o_pickT rfl rfl (v := .bool ((r10.Nodes.length : Int) == 5)) rfl (dP rfl rfl (o_move (v := .bool ((r10.Nodes.length : Int) == 5)) rfl ?_)))))
                  refine dGF rfl rfl hb8 rfl ?_
                  refine dGF rfl rfl rfl rfl ?_
                  refine dGF rfl rfl rfl rfl ?_
                  refine dP rfl rfl (o_pickF rfl rfl (v := .bool false) rfl (dP rfl rfl (o_assign (v := .bool false) rfl (dN ?_))))
                  refine Vc.ret' ?_
                  refine res_tmp (v := .bool false) rfl (res_nil ?_)
                  show Gives _ (.bool false) _
                  exact gives_out hrg (VW.refl _) (hQ _ h)
                replace h := h.2 hb7
                refine Vc.drawn' mixed rg (usOf [(24, pc (eRat r13)), (25, pc (.bool r14))]) (by kernel_rfl) ?_
                refine dP rfl rfl (o_move (v := eErr 107 r2) rfl (dP rfl rfl (o_isnil td31 (E := 107) rfl rfl rfl (dP rfl rfl (o_move (v := .bool (Option.isNone r2)) rfl ?_)))))
                refine dGT rfl rfl hb ?_
                refine dP rfl rfl (o_move (v := eErr 107 r5) rfl ?_)
                refine dGT rfl rfl rfl ?_
                refine dP rfl rfl (o_isnil td31 (E := 107) rfl rfl rfl (dP rfl rfl (o_pickT rfl rfl (v := .bool (Option.isNone r5)) rfl (dP rfl rfl (o_move (v := .bool (Option.isNone r5)) rfl ?_)))))
                refine dGT rfl rfl hb1 ?_
                refine dP rfl rfl (o_move (v := eErr 107 r8) rfl ?_)
                refine dGT rfl rfl rfl ?_
                refine dP rfl rfl (o_isnil td31 (E := 107) rfl rfl rfl (dP rfl rfl (o_pickT rfl rfl (v := .bool (Option.isNone r8)) rfl (dP rfl rfl (o_move (v := .bool (Option.isNone r8)) rfl ?_)))))
                refine dGT rfl rfl hb2 ?_
                refine dP rfl rfl (o_move (v := eErr 107 r12) rfl ?_)
                refine dGT rfl rfl rfl ?_
                refine dP rfl rfl (o_isnil td31 (E := 107) rfl rfl rfl (dP rfl rfl (o_pickT rfl rfl (v := .bool (Option.isNone r12)) rfl (dP rfl rfl (o_move (v := .bool (Option.isNone r12)) rfl ?_)))))
                refine dGT rfl rfl hb3 ?_
                refine dP rfl rfl (o_move (v := .int .i64 r1) rfl ?_)
                refine dGT rfl rfl rfl ?_
                refine dP rfl rfl (o_eql rfl rfl (dP rfl rfl (o_pickT rfl rfl (v := .bool (r1 == 1)) rfl (dP rfl rfl (o_move (v := .bool (r1 == 1)) rfl ?_)))))
                refine dGT rfl rfl hb4 ?_
                refine dP rfl rfl (o_move (v := .int .i64 r4) rfl ?_)
                refine dGT rfl rfl rfl ?_
                refine dP rfl rfl (o_eql rfl rfl (dP rfl rfl (o_pickT rfl rfl (v := .bool (r4 == 2)) rfl (dP rfl rfl (o_move (v := .bool (r4 == 2)) rfl ?_)))))
                refine dGT rfl rfl hb5 ?_
                refine dL (E := ([(rg, 6)], [])) rfl rfl (by simp) (cfn) (o_loadBA (atL (k := 6) rfl) sz27 (by decide) ag27 rfl rfl (v := eRat r7) rfl ?_)
                refine dGT rfl rfl rfl ?_
                refine dC (vs := [AV.int .i64 1, AV.int .i64 16]) rfl (vl' vr (vl' vr (vn))) (fun _ => law46_part_ctr hc (fun _ hr => ⟨by rw [hr], rfl⟩)) rfl ?_
                refine dGT rfl rfl rfl ?_
                refine dC (vs := [eRat r7, eRat r13]) rfl (vl' vr (vl' vr (vn))) (fun _ => base_Rat_ctr hc1 (fun _ hr => ⟨by rw [hr], rfl⟩)) rfl ?_
                refine dP rfl rfl (o_pickT rfl rfl (v := .bool r14) rfl (dP rfl rfl (o_move (v := .bool r14) rfl ?_)))
                refine dGT rfl rfl hb6 ?_
                refine dP rfl rfl (o_faP td70 rfl rfl (by rw [sz3]; decide) rfl ?_)
                refine dGT rfl rfl rfl ?_
                refine dL (E := ([(rg, 8)], [])) rfl rfl (by simp) (cfo (by kernel_rfl) (cfn)) (o_loadB1 (atL (k := 8) rfl) sz3 ag3 rfl rfl (v := .int .i64 r10.Vars) rfl ?_)
                refine dGT rfl rfl rfl ?_
                refine dP rfl rfl (o_eql rfl rfl (dP rfl rfl (o_pickT rfl rfl (v := .bool (r10.Vars == 4)) rfl (dP rfl rfl (o_move (v := .bool (r10.Vars == 4)) rfl ?_)))))
                refine dGF rfl rfl hb7 rfl ?_
                refine dGF rfl rfl rfl rfl ?_
                refine dGF rfl rfl rfl rfl ?_
                refine dGF rfl rfl rfl rfl ?_
                refine dP rfl rfl (o_pickF rfl rfl (v := .bool false) rfl (dP rfl rfl (o_move (v := .bool false) rfl ?_)))
                refine dGF rfl rfl rfl rfl ?_
                refine dGF rfl rfl rfl rfl ?_
                refine dGF rfl rfl rfl rfl ?_
                refine dP rfl rfl (o_pickF rfl rfl (v := .bool false) rfl (dP rfl rfl (o_assign (v := .bool false) rfl (dN ?_))))
                refine Vc.ret' ?_
                refine res_tmp (v := .bool false) rfl (res_nil ?_)
                show Gives _ (.bool false) _
                exact gives_out hrg (VW.refl _) (hQ _ h)
              replace h := h.2 hb6
              refine Vc.drawn' mixed rg (usOf [(24, pc (eRat r13)), (25, pc (.bool r14))]) (by kernel_rfl) ?_
              refine dP rfl rfl (o_move (v := eErr 107 r2) rfl (dP rfl rfl (o_isnil td31 (E := 107) rfl rfl rfl (dP rfl rfl (o_move (v := .bool (Option.isNone r2)) rfl ?_)))))
              refine dGT rfl rfl hb ?_
              refine dP rfl rfl (o_move (v := eErr 107 r5) rfl ?_)
              refine dGT rfl rfl rfl ?_
              refine dP rfl rfl (o_isnil td31 (E := 107) rfl rfl rfl (dP rfl rfl (o_pickT rfl rfl (v := .bool (Option.isNone r5)) rfl (dP rfl rfl (o_move (v := .bool (Option.isNone r5)) rfl ?_)))))
              refine dGT rfl rfl hb1 ?_
              refine dP rfl rfl (o_move (v := eErr 107 r8) rfl ?_)
              refine dGT rfl rfl rfl ?_
              refine dP rfl rfl (o_isnil td31 (E := 107) rfl rfl rfl (dP rfl rfl (o_pickT rfl rfl (v := .bool (Option.isNone r8)) rfl (dP rfl rfl (o_move (v := .bool (Option.isNone r8)) rfl ?_)))))
              refine dGT rfl rfl hb2 ?_
              refine dP rfl rfl (o_move (v := eErr 107 r12) rfl ?_)
              refine dGT rfl rfl rfl ?_
              refine dP rfl rfl (o_isnil td31 (E := 107) rfl rfl rfl (dP rfl rfl (o_pickT rfl rfl (v := .bool (Option.isNone r12)) rfl (dP rfl rfl (o_move (v := .bool (Option.isNone r12)) rfl ?_)))))
              refine dGT rfl rfl hb3 ?_
              refine dP rfl rfl (o_move (v := .int .i64 r1) rfl ?_)
              refine dGT rfl rfl rfl ?_
              refine dP rfl rfl (o_eql rfl rfl (dP rfl rfl (o_pickT rfl rfl (v := .bool (r1 == 1)) rfl (dP rfl rfl (o_move (v := .bool (r1 == 1)) rfl ?_)))))
              refine dGT rfl rfl hb4 ?_
              refine dP rfl rfl (o_move (v := .int .i64 r4) rfl ?_)
              refine dGT rfl rfl rfl ?_
              refine dP rfl rfl (o_eql rfl rfl (dP rfl rfl (o_pickT rfl rfl (v := .bool (r4 == 2)) rfl (dP rfl rfl (o_move (v := .bool (r4 == 2)) rfl ?_)))))
              refine dGT rfl rfl hb5 ?_
              refine dL (E := ([(rg, 6)], [])) rfl rfl (by simp) (cfn) (o_loadBA (atL (k := 6) rfl) sz27 (by decide) ag27 rfl rfl (v := eRat r7) rfl ?_)
              refine dGT rfl rfl rfl ?_
              refine dC (vs := [AV.int .i64 1, AV.int .i64 16]) rfl (vl' vr (vl' vr (vn))) (fun _ => law46_part_ctr hc (fun _ hr => ⟨by rw [hr], rfl⟩)) rfl ?_
              refine dGT rfl rfl rfl ?_
              refine dC (vs := [eRat r7, eRat r13]) rfl (vl' vr (vl' vr (vn))) (fun _ => base_Rat_ctr hc1 (fun _ hr => ⟨by rw [hr], rfl⟩)) rfl ?_
              refine dP rfl rfl (o_pickT rfl rfl (v := .bool r14) rfl (dP rfl rfl (o_move (v := .bool r14) rfl ?_)))
              refine dGF rfl rfl hb6 rfl ?_
              refine dGF rfl rfl rfl rfl ?_
              refine dGF rfl rfl rfl rfl ?_
              refine dP rfl rfl (o_pickF rfl rfl (v := .bool false) rfl (dP rfl rfl (o_move (v := .bool false) rfl ?_)))
              refine dGF rfl rfl rfl rfl ?_
              refine dGF rfl rfl rfl rfl ?_
              refine dGF rfl rfl rfl rfl ?_
              refine dGF rfl rfl rfl rfl ?_
              refine dP rfl rfl (o_pickF rfl rfl (v := .bool false) rfl (dP rfl rfl (o_move (v := .bool false) rfl ?_)))
              refine dGF rfl rfl rfl rfl ?_
              refine dGF rfl rfl rfl rfl ?_
              refine dGF rfl rfl rfl rfl ?_
              refine dP rfl rfl (o_pickF rfl rfl (v := .bool false) rfl (dP rfl rfl (o_assign (v := .bool false) rfl (dN ?_))))
              refine Vc.ret' ?_
              refine res_tmp (v := .bool false) rfl (res_nil ?_)
              show Gives _ (.bool false) _
              exact gives_out hrg (VW.refl _) (hQ _ h)
            replace h := h.2 hb5
            refine Vc.drawn' mixed rg (fun _ => jcr2) (by kernel_rfl) ?_
            refine dP rfl rfl (o_move (v := eErr 107 r2) rfl (dP rfl rfl (o_isnil td31 (E := 107) rfl rfl rfl (dP rfl rfl (o_move (v := .bool (Option.isNone r2)) rfl ?_)))))
            refine dGT rfl rfl hb ?_
            refine dP rfl rfl (o_move (v := eErr 107 r5) rfl ?_)
            refine dGT rfl rfl rfl ?_
            refine dP rfl rfl (o_isnil td31 (E := 107) rfl rfl rfl (dP rfl rfl (o_pickT rfl rfl (v := .bool (Option.isNone r5)) rfl (dP rfl rfl (o_move (v := .bool (Option.isNone r5)) rfl ?_)))))
            refine dGT rfl rfl hb1 ?_
            refine dP rfl rfl (o_move (v := eErr 107 r8) rfl ?_)
            refine dGT rfl rfl rfl ?_
            refine dP rfl rfl (o_isnil td31 (E := 107) rfl rfl rfl (dP rfl rfl (o_pickT rfl rfl (v := .bool (Option.isNone r8)) rfl (dP rfl rfl (o_move (v := .bool (Option.isNone r8)) rfl ?_)))))
            refine dGT rfl rfl hb2 ?_
            refine dP rfl rfl (o_move (v := eErr 107 r12) rfl ?_)
            refine dGT rfl rfl rfl ?_
            refine dP rfl rfl (o_isnil td31 (E := 107) rfl rfl rfl (dP rfl rfl (o_pickT rfl rfl (v := .bool (Option.isNone r12)) rfl (dP rfl rfl (o_move (v := .bool (Option.isNone r12)) rfl ?_)))))
            refine dGT rfl rfl hb3 ?_
            refine dP rfl rfl (o_move (v := .int .i64 r1) rfl ?_)
            refine dGT rfl rfl rfl ?_
            refine dP rfl rfl (o_eql rfl rfl (dP rfl rfl (o_pickT rfl rfl (v := .bool (r1 == 1)) rfl (dP rfl rfl (o_move (v := .bool (r1 == 1)) rfl ?_)))))
            refine dGT rfl rfl hb4 ?_
            refine dP rfl rfl (o_move (v := .int .i64 r4) rfl ?_)
            refine dGT rfl rfl rfl ?_
            refine dP rfl rfl (o_eql rfl rfl (dP rfl rfl (o_pickT rfl rfl (v := .bool (r4 == 2)) rfl (dP rfl rfl (o_move (v := .bool (r4 == 2)) rfl ?_)))))
            refine dGF rfl rfl hb5 rfl ?_
            refine dGF rfl rfl rfl rfl ?_
            refine dGF rfl rfl rfl rfl ?_
            refine dP rfl rfl (o_pickF rfl rfl (v := .bool false) rfl (dP rfl rfl (o_move (v := .bool false) rfl ?_)))
            refine dGF rfl rfl rfl rfl ?_
            refine dGF rfl rfl rfl rfl ?_
            refine dGF rfl rfl rfl rfl ?_
            refine dP rfl rfl (o_pickF rfl rfl (v := .bool false) rfl (dP rfl rfl (o_move (v := .bool false) rfl ?_)))
            refine dGF rfl rfl rfl rfl ?_
            refine dGF rfl rfl rfl rfl ?_
            refine dGF rfl rfl rfl rfl ?_
            refine dGF rfl rfl rfl rfl ?_
            refine dP rfl rfl (o_pickF rfl rfl (v := .bool false) rfl (dP rfl rfl (o_move (v := .bool false) rfl ?_)))
            refine dGF rfl rfl rfl rfl ?_
            refine dGF rfl rfl rfl rfl ?_
            refine dGF rfl rfl rfl rfl ?_
            refine dP rfl rfl (o_pickF rfl rfl (v := .bool false) rfl (dP rfl rfl (o_assign (v := .bool false) rfl (dN ?_))))
            refine Vc.ret' ?_
            refine res_tmp (v := .bool false) rfl (res_nil ?_)
            show Gives _ (.bool false) _
            exact gives_out hrg (VW.refl _) (hQ _ h)
          replace h := h.2 hb4
          refine Vc.drawn' mixed rg (fun _ => jcr2) (by kernel_rfl) ?_
          refine dP rfl rfl (o_move (v := eErr 107 r2) rfl (dP rfl rfl (o_isnil td31 (E := 107) rfl rfl rfl (dP rfl rfl (o_move (v := .bool (Option.isNone r2)) rfl ?_)))))
          refine dGT rfl rfl hb ?_
          refine dP rfl rfl (o_move (v := eErr 107 r5) rfl ?_)
          refine dGT rfl rfl rfl ?_
          refine dP rfl rfl (o_isnil td31 (E := 107) rfl rfl rfl (dP rfl rfl (o_pickT rfl rfl (v := .bool (Option.isNone r5)) rfl (dP rfl rfl (o_move (v := .bool (Option.isNone r5)) rfl ?_)))))
          refine dGT rfl rfl hb1 ?_
          refine dP rfl rfl (o_move (v := eErr 107 r8) rfl ?_)
          refine dGT rfl rfl rfl ?_
          refine dP rfl rfl (o_isnil td31 (E := 107) rfl rfl rfl (dP rfl rfl (o_pickT rfl rfl (v := .bool (Option.isNone r8)) rfl (dP rfl rfl (o_move (v := .bool (Option.isNone r8)) rfl ?_)))))
          refine dGT rfl rfl hb2 ?_
          refine dP rfl rfl (o_move (v := eErr 107 r12) rfl ?_)
          refine dGT rfl rfl rfl ?_
          refine dP rfl rfl (o_isnil td31 (E := 107) rfl rfl rfl (dP rfl rfl (o_pickT rfl rfl (v := .bool (Option.isNone r12)) rfl (dP rfl rfl (o_move (v := .bool (Option.isNone r12)) rfl ?_)))))
          refine dGT rfl rfl hb3 ?_
          refine dP rfl rfl (o_move (v := .int .i64 r1) rfl ?_)
          refine dGT rfl rfl rfl ?_
          refine dP rfl rfl (o_eql rfl rfl (dP rfl rfl (o_pickT rfl rfl (v := .bool (r1 == 1)) rfl (dP rfl rfl (o_move (v := .bool (r1 == 1)) rfl ?_)))))
          refine dGF rfl rfl hb4 rfl ?_
          refine dGF rfl rfl rfl rfl ?_
          refine dP rfl rfl (o_pickF rfl rfl (v := .bool false) rfl (dP rfl rfl (o_move (v := .bool false) rfl ?_)))
          refine dGF rfl rfl rfl rfl ?_
          refine dGF rfl rfl rfl rfl ?_
          refine dGF rfl rfl rfl rfl ?_
          refine dP rfl rfl (o_pickF rfl rfl (v := .bool false) rfl (dP rfl rfl (o_move (v := .bool false) rfl ?_)))
          refine dGF rfl rfl rfl rfl ?_
          refine dGF rfl rfl rfl rfl ?_
          refine dGF rfl rfl rfl rfl ?_
          refine dP rfl rfl (o_pickF rfl rfl (v := .bool false) rfl (dP rfl rfl (o_move (v := .bool false) rfl ?_)))
          refine dGF rfl rfl rfl rfl ?_
          refine dGF rfl rfl rfl rfl ?_
          refine dGF rfl rfl rfl rfl ?_
          refine dGF rfl rfl rfl rfl ?_
          refine dP rfl rfl (o_pickF rfl rfl (v := .bool false) rfl (dP rfl rfl (o_move (v := .bool false) rfl ?_)))
          refine dGF rfl rfl rfl rfl ?_
          refine dGF rfl rfl rfl rfl ?_
          refine dGF rfl rfl rfl rfl ?_
          refine dP rfl rfl (o_pickF rfl rfl (v := .bool false) rfl (dP rfl rfl (o_assign (v := .bool false) rfl (dN ?_))))
          refine Vc.ret' ?_
          refine res_tmp (v := .bool false) rfl (res_nil ?_)
          show Gives _ (.bool false) _
          exact gives_out hrg (VW.refl _) (hQ _ h)
        replace h := h.2 hb3
        refine Vc.drawn' mixed rg (fun _ => jcr2) (by kernel_rfl) ?_
        refine dP rfl rfl (o_move (v := eErr 107 r2) rfl (dP rfl rfl (o_isnil td31 (E := 107) rfl rfl rfl (dP rfl rfl (o_move (v := .bool (Option.isNone r2)) rfl ?_)))))
        refine dGT rfl rfl hb ?_
        refine dP rfl rfl (o_move (v := eErr 107 r5) rfl ?_)
        refine dGT rfl rfl rfl ?_
        refine dP rfl rfl (o_isnil td31 (E := 107) rfl rfl rfl (dP rfl rfl (o_pickT rfl rfl (v := .bool (Option.isNone r5)) rfl (dP rfl rfl (o_move (v := .bool (Option.isNone r5)) rfl ?_)))))
        refine dGT rfl rfl hb1 ?_
        refine dP rfl rfl (o_move (v := eErr 107 r8) rfl ?_)
        refine dGT rfl rfl rfl ?_
        refine dP rfl rfl (o_isnil td31 (E := 107) rfl rfl rfl (dP rfl rfl (o_pickT rfl rfl (v := .bool (Option.isNone r8)) rfl (dP rfl rfl (o_move (v := .bool (Option.isNone r8)) rfl ?_)))))
        refine dGT rfl rfl hb2 ?_
        refine dP rfl rfl (o_move (v := eErr 107 r12) rfl ?_)
        refine dGT rfl rfl rfl ?_
        refine dP rfl rfl (o_isnil td31 (E := 107) rfl rfl rfl (dP rfl rfl (o_pickT rfl rfl (v := .bool (Option.isNone r12)) rfl (dP rfl rfl (o_move (v := .bool (Option.isNone r12)) rfl ?_)))))
        refine dGF rfl rfl hb3 rfl ?_
        refine dGF rfl rfl rfl rfl ?_
        refine dP rfl rfl (o_pickF rfl rfl (v := .bool false) rfl (dP rfl rfl (o_move (v := .bool false) rfl ?_)))
        refine dGF rfl rfl rfl rfl ?_
        refine dGF rfl rfl rfl rfl ?_
        refine dP rfl rfl (o_pickF rfl rfl (v := .bool false) rfl (dP rfl rfl (o_move (v := .bool false) rfl ?_)))
        refine dGF rfl rfl rfl rfl ?_
        refine dGF rfl rfl rfl rfl ?_
        refine dGF rfl rfl rfl rfl ?_
        refine dP rfl rfl (o_pickF rfl rfl (v := .bool false) rfl (dP rfl rfl (o_move (v := .bool false) rfl ?_)))
        refine dGF rfl rfl rfl rfl ?_
        refine dGF rfl rfl rfl rfl ?_
        refine dGF rfl rfl rfl rfl ?_
        refine dP rfl rfl (o_pickF rfl rfl (v := .bool false) rfl (dP rfl rfl (o_move (v := .bool false) rfl ?_)))
        refine dGF rfl rfl rfl rfl ?_
        refine dGF rfl rfl rfl rfl ?_
        refine dGF rfl rfl rfl rfl ?_
        refine dGF rfl rfl rfl rfl ?_
        refine dP rfl rfl (o_pickF rfl rfl (v := .bool false) rfl (dP rfl rfl (o_move (v := .bool false) rfl ?_)))
        refine dGF rfl rfl rfl rfl ?_
        refine dGF rfl rfl rfl rfl ?_
        refine dGF rfl rfl rfl rfl ?_
        refine dP rfl rfl (o_pickF rfl rfl (v := .bool false) rfl (dP rfl rfl (o_assign (v := .bool false) rfl (dN ?_))))
        refine Vc.ret' ?_
        refine res_tmp (v := .bool false) rfl (res_nil ?_)
        show Gives _ (.bool false) _
        exact gives_out hrg (VW.refl _) (hQ _ h)
      replace h := h.2 hb2
      refine Vc.drawn' mixed rg (fun _ => jcr2) (by kernel_rfl) ?_
      refine dP rfl rfl (o_move (v := eErr 107 r2) rfl (dP rfl rfl (o_isnil td31 (E := 107) rfl rfl rfl (dP rfl rfl (o_move (v := .bool (Option.isNone r2)) rfl ?_)))))
      refine dGT rfl rfl hb ?_
      refine dP rfl rfl (o_move (v := eErr 107 r5) rfl ?_)
      refine dGT rfl rfl rfl ?_
      refine dP rfl rfl (o_isnil td31 (E := 107) rfl rfl rfl (dP rfl rfl (o_pickT rfl rfl (v := .bool (Option.isNone r5)) rfl (dP rfl rfl (o_move (v := .bool (Option.isNone r5)) rfl ?_)))))
      refine dGT rfl rfl hb1 ?_
      refine dP rfl rfl (o_move (v := eErr 107 r8) rfl ?_)
      refine dGT rfl rfl rfl ?_
      refine dP rfl rfl (o_isnil td31 (E := 107) rfl rfl rfl (dP rfl rfl (o_pickT rfl rfl (v := .bool (Option.isNone r8)) rfl (dP rfl rfl (o_move (v := .bool (Option.isNone r8)) rfl ?_)))))
      refine dGF rfl rfl hb2 rfl ?_
      refine dGF rfl rfl rfl rfl ?_
      refine dP rfl rfl (o_pickF rfl rfl (v := .bool false) rfl (dP rfl rfl (o_move (v := .bool false) rfl ?_)))
      refine dGF rfl rfl rfl rfl ?_
      refine dGF rfl rfl rfl rfl ?_
      refine dP rfl rfl (o_pickF rfl rfl (v := .bool false) rfl (dP rfl rfl (o_move (v := .bool false) rfl ?_)))
      refine dGF rfl rfl rfl rfl ?_
      refine dGF rfl rfl rfl rfl ?_
      refine dP rfl rfl (o_pickF rfl rfl (v := .bool false) rfl (dP rfl rfl (o_move (v := .bool false) rfl ?_)))
      refine dGF rfl rfl rfl rfl ?_
      refine dGF rfl rfl rfl rfl ?_
      refine dGF rfl rfl rfl rfl ?_
      refine dP rfl rfl (o_pickF rfl rfl (v := .bool false) rfl (dP rfl rfl (o_move (v := .bool false) rfl ?_)))
      refine dGF rfl rfl rfl rfl ?_
      refine dGF rfl rfl rfl rfl ?_
      refine dGF rfl rfl rfl rfl ?_
      refine dP rfl rfl (o_pickF rfl rfl (v := .bool false) rfl (dP rfl rfl (o_move (v := .bool false) rfl ?_)))
      refine dGF rfl rfl rfl rfl ?_
      refine dGF rfl rfl rfl rfl ?_
      refine dGF rfl rfl rfl rfl ?_
      refine dGF rfl rfl rfl rfl ?_
      refine dP rfl rfl (o_pickF rfl rfl (v := .bool false) rfl (dP rfl rfl (o_move (v := .bool false) rfl ?_)))
      refine dGF rfl rfl rfl rfl ?_
      refine dGF rfl rfl rfl rfl ?_
      refine dGF rfl rfl rfl rfl ?_
      refine dP rfl rfl (o_pickF rfl rfl (v := .bool false) rfl (dP rfl rfl (o_assign (v := .bool false) rfl (dN ?_))))
      refine Vc.ret' ?_
      refine res_tmp (v := .bool false) rfl (res_nil ?_)
      show Gives _ (.bool false) _
      exact gives_out hrg (VW.refl _) (hQ _ h)
    replace h := h.2 hb1
    refine Vc.drawn' mixed rg (fun _ => jcr2) (by kernel_rfl) ?_
    refine dP rfl rfl (o_move (v := eErr 107 r2) rfl (dP rfl rfl (o_isnil td31 (E := 107) rfl rfl rfl (dP rfl rfl (o_move (v := .bool (Option.isNone r2)) rfl ?_)))))
    refine dGT rfl rfl hb ?_
    refine dP rfl rfl (o_move (v := eErr 107 r5) rfl ?_)
    refine dGT rfl rfl rfl ?_
    refine dP rfl rfl (o_isnil td31 (E := 107) rfl rfl rfl (dP rfl rfl (o_pickT rfl rfl (v := .bool (Option.isNone r5)) rfl (dP rfl rfl (o_move (v := .bool (Option.isNone r5)) rfl ?_)))))
    refine dGF rfl rfl hb1 rfl ?_
    refine dGF rfl rfl rfl rfl ?_
    refine dP rfl rfl (o_pickF rfl rfl (v := .bool false) rfl (dP rfl rfl (o_move (v := .bool false) rfl ?_)))
    refine dGF rfl rfl rfl rfl ?_
    refine dGF rfl rfl rfl rfl ?_
    refine dP rfl rfl (o_pickF rfl rfl (v := .bool false) rfl (dP rfl rfl (o_move (v := .bool false) rfl ?_)))
    refine dGF rfl rfl rfl rfl ?_
    refine dGF rfl rfl rfl rfl ?_
    refine dP rfl rfl (o_pickF rfl rfl (v := .bool false) rfl (dP rfl rfl (o_move (v := .bool false) rfl ?_)))
    refine dGF rfl rfl rfl rfl ?_
    refine dGF rfl rfl rfl rfl ?_
    refine dP rfl rfl (o_pickF rfl rfl (v := .bool false) rfl (dP rfl rfl (o_move (v := .bool false) rfl ?_)))
    refine dGF rfl rfl rfl rfl ?_
    refine dGF rfl rfl rfl rfl ?_
    refine dGF rfl rfl rfl rfl ?_
    refine dP rfl rfl (o_pickF rfl rfl (v := .bool false) rfl (dP rfl rfl (o_move (v := .bool false) rfl ?_)))
    refine dGF rfl rfl rfl rfl ?_
    refine dGF rfl rfl rfl rfl ?_
    refine dGF rfl rfl rfl rfl ?_
    refine dP rfl rfl (o_pickF rfl rfl (v := .bool false) rfl (dP rfl rfl (o_move (v := .bool false) rfl ?_)))
    refine dGF rfl rfl rfl rfl ?_
    refine dGF rfl rfl rfl rfl ?_
    refine dGF rfl rfl rfl rfl ?_
    refine dGF rfl rfl rfl rfl ?_
    refine dP rfl rfl (o_pickF rfl rfl (v := .bool false) rfl (dP rfl rfl (o_move (v := .bool false) rfl ?_)))
    refine dGF rfl rfl rfl rfl ?_
    refine dGF rfl rfl rfl rfl ?_
    refine dGF rfl rfl rfl rfl ?_
    refine dP rfl rfl (o_pickF rfl rfl (v := .bool false) rfl (dP rfl rfl (o_assign (v := .bool false) rfl (dN ?_))))
    refine Vc.ret' ?_
    refine res_tmp (v := .bool false) rfl (res_nil ?_)
    show Gives _ (.bool false) _
    exact gives_out hrg (VW.refl _) (hQ _ h)
  replace h := h.2 hb
  refine Vc.drawn' mixed rg (fun _ => jcr2) (by kernel_rfl) ?_
  refine dP rfl rfl (o_move (v := eErr 107 r2) rfl (dP rfl rfl (o_isnil td31 (E := 107) rfl rfl rfl (dP rfl rfl (o_move (v := .bool (Option.isNone r2)) rfl ?_)))))
  refine dGF rfl rfl hb rfl ?_
  refine dGF rfl rfl rfl rfl ?_
  refine dP rfl rfl (o_pickF rfl rfl (v := .bool false) rfl (dP rfl rfl (o_move (v := .bool false) rfl ?_)))
  refine dGF rfl rfl rfl rfl ?_
  refine dGF rfl rfl rfl rfl ?_
  refine dP rfl rfl (o_pickF rfl rfl (v := .bool false) rfl (dP rfl rfl (o_move (v := .bool false) rfl ?_)))
  refine dGF rfl rfl rfl rfl ?_
  refine dGF rfl rfl rfl rfl ?_
  refine dP rfl rfl (o_pickF rfl rfl (v := .bool false) rfl (dP rfl rfl (o_move (v := .bool false) rfl ?_)))
  refine dGF rfl rfl rfl rfl ?_
  refine dGF rfl rfl rfl rfl ?_
  refine dP rfl rfl (o_pickF rfl rfl (v := .bool false) rfl (dP rfl rfl (o_move (v := .bool false) rfl ?_)))
  refine dGF rfl rfl rfl rfl ?_
  refine dGF rfl rfl rfl rfl ?_
  refine dP rfl rfl (o_pickF rfl rfl (v := .bool false) rfl (dP rfl rfl (o_move (v := .bool false) rfl ?_)))
  refine dGF rfl rfl rfl rfl ?_
  refine dGF rfl rfl rfl rfl ?_
  refine dGF rfl rfl rfl rfl ?_
  refine dP rfl rfl (o_pickF rfl rfl (v := .bool false) rfl (dP rfl rfl (o_move (v := .bool false) rfl ?_)))
  refine dGF rfl rfl rfl rfl ?_
  refine dGF rfl rfl rfl rfl ?_
  refine dGF rfl rfl rfl rfl ?_
  refine dP rfl rfl (o_pickF rfl rfl (v := .bool false) rfl (dP rfl rfl (o_move (v := .bool false) rfl ?_)))
  refine dGF rfl rfl rfl rfl ?_
  refine dGF rfl rfl rfl rfl ?_
  refine dGF rfl rfl rfl rfl ?_
  refine dGF rfl rfl rfl rfl ?_
  refine dP rfl rfl (o_pickF rfl rfl (v := .bool false) rfl (dP rfl rfl (o_move (v := .bool false) rfl ?_)))
  refine dGF rfl rfl rfl rfl ?_
  refine dGF rfl rfl rfl rfl ?_
  refine dGF rfl rfl rfl rfl ?_
  refine dP rfl rfl (o_pickF rfl rfl (v := .bool false) rfl (dP rfl rfl (o_assign (v := .bool false) rfl (dN ?_))))
  refine Vc.ret' ?_
  refine res_tmp (v := .bool false) rfl (res_nil ?_)
  show Gives _ (.bool false) _
  exact gives_out hrg (VW.refl _) (hQ _ h)
theorem law46_large_ctr {m : GMission} {Q : Bool → Prop} {S : St} {R : AV → St → Prop} (h : law46_large_W m Q) (hQ : ∀ r1, Q r1 → R (AV.bool r1) S) :
    Ctr Try.prog 57 [eMission m] S R := by
  unfold law46_large_W at h
  refine enterT Try.func57 rfl Try.ntmps57 Try.results57 (by kernel_rfl) (fun rg hrg => ?_)
  refine qZ (rZ (wZ rg (o_box (v := eMission m) rfl rfl (kk := 2) rfl (by decide) (fun g1 => (asZ (.bool false) rfl (nZ (qZ (qZ (rZ (wZ rg (o_faP td94 rfl rfl (by rw [sz91]; decide) rfl (wZ rg (o_loadB1 (atL (k := 1) rfl) sz91 ag91 rfl rfl (v := eL eFormula m.Phases) rfl (wZ rg (o_len td91 rfl (wZ rg (o_gtr rfl rfl (mvZ (.bool (decide (20 < (m.Phases.length : Int)))) rfl ?_))))))))))))))))))
  refine Wl.guard rfl rfl (fun hb => ?_) (fun hb => ?_)
  · replace h := h.2 hb
    refine wZ rg (o_faP td94 rfl rfl (by rw [sz92]; decide) rfl ?_)
    refine Wl.guardT rfl rfl hb ?_
    refine wZ rg (o_loadB1 (atL (k := 1) rfl) sz92 ag92 rfl rfl (v := eL (eL eRat) m.P) rfl ?_)
    refine Wl.guardT rfl rfl hb ?_
    refine wZ rg (o_len td92 rfl ?_)
    refine Wl.guardT rfl rfl hb ?_
    refine wZ rg (o_gtr rfl rfl (wZ rg (o_pickF rfl hb (v := .bool (decide (50 < (m.P.length : Int)))) rfl (nZ ?_))))
    refine Vc.cond' rfl (fun hb1 => ?_) (fun hb1 => ?_)
    · replace h := h.1 hb1
      refine qZ (rZ (asZ (.bool true) rfl (nZ ?_)))
      refine Vc.ret' ?_
      refine res_tmp (v := .bool true) rfl (res_nil ?_)
      show Gives _ (.bool true) _
      exact gives_out hrg (VW.refl _) (hQ _ h)
    replace h := h.2 hb1
    refine Vc.skip' ?_
    refine qZ (qZ (rZ (asZ (.int .i64 0) rfl (nZ ?_))))
    refine Vc.blk ?_
    obtain ⟨I, μ, h0, hI⟩ := h
    refine Vc.loop' (σ := (Int)) (fun y => I y) (fun y => μ y) (fun y => envOf [(1, .ptr rg 1 g1 0 0), (3, .int .i64 y)]) (fun y => stL S rg [(1, .arr 2 [eMission m], g1)]) 0 (canon (fc vr (fc vr (fn))) (sc rfl (sn))) h0 (fun i h => ?_)
    replace h := hI i h
    show Vc _ _ _ _ (envOf [(1, .ptr rg 1 g1 0 0), (3, .int .i64 i)]) (stL S rg [(1, .arr 2 [eMission m], g1)])
    refine qZ (qZ (rZ (mvZ (.int .i64 i) rfl (wZ rg (o_faP td94 rfl rfl (by rw [sz92]; decide) rfl (wZ rg (o_loadB1 (atL (k := 1) rfl) sz92 ag92 rfl rfl (v := eL (eL eRat) m.P) rfl (wZ rg (o_len td92 rfl (wZ rg (o_lss rfl rfl (nZ ?_))))))))))))
    refine Vc.cond' rfl (fun hb2 => ?_) (fun hb2 => ?_)
    · replace h := h.1 hb2
      refine Vc.skip' ?_
      refine qZ ?_
      refine Vc.blk ?_
      refine qZ (qZ (rZ (wZ rg (o_faP td94 rfl rfl (by rw [sz92]; decide) rfl (wZ rg (o_loadB1 (atL (k := 1) rfl) sz92 ag92 rfl rfl (v := eL (eL eRat) m.P) rfl (mvZ (.int .i64 i) rfl (wZ rg (o_idxL td92 sz22 (by decide) (fun _ => rfl) rfl rfl h.1 ?_)))))))))
      replace h := h.2
      refine wZ rg (o_loadI1 sz22 ag22 rfl rfl (v := eL eRat (at' m.P i)) rfl (wZ rg (o_len td22 rfl (wZ rg (o_gtr rfl rfl (nZ ?_))))))
      refine Vc.cond' rfl (fun hb3 => ?_) (fun hb3 => ?_)
      · replace h := h.1 hb3
        refine qZ (rZ (asZ (.bool true) rfl (nZ ?_)))
        refine Vc.ret' ?_
        refine res_tmp (v := .bool true) rfl (res_nil ?_)
        show Gives _ (.bool true) _
        exact gives_out hrg (VW.refl _) (hQ _ h)
      replace h := h.2 hb3
      refine Vc.skip' ?_
      refine qZ (rZ (asZ (.int .i64 0) rfl (nZ ?_)))
      refine Vc.blk ?_
      obtain ⟨I, μ, h0, hI⟩ := h
      refine Vc.loop' (σ := (Int)) (fun y => I y) (fun y => μ y) (fun y => envOf [(1, .ptr rg 1 g1 0 0), (3, .int .i64 i), (4, .int .i64 y)]) (fun y => stL S rg [(1, .arr 2 [eMission m], g1)]) 0 (canon (fc vr (fc vr (fc vr (fn)))) (sc rfl (sn))) h0 (fun j h => ?_)
      replace h := hI j h
      show Vc _ _ _ _ (envOf [(1, .ptr rg 1 g1 0 0), (3, .int .i64 i), (4, .int .i64 j)]) (stL S rg [(1, .arr 2 [eMission m], g1)])
      refine qZ (qZ (rZ (mvZ (.int .i64 j) rfl (wZ rg (o_faP td94 rfl rfl (by rw [sz92]; decide) rfl (wZ rg (o_loadB1 (atL (k := 1) rfl) sz92 ag92 rfl rfl (v := eL (eL eRat) m.P) rfl (mvZ (.int .i64 i) rfl (wZ rg (o_idxL td92 sz22 (by decide) (fun _ => rfl) rfl rfl h.1 ?_))))))))))
      replace h := h.2
      refine wZ rg (o_loadI1 sz22 ag22 rfl rfl (v := eL eRat (at' m.P i)) rfl (wZ rg (o_len td22 rfl (wZ rg (o_lss rfl rfl (nZ ?_))))))
      refine Vc.cond' rfl (fun hb4 => ?_) (fun hb4 => ?_)
      · replace h := h.1 hb4
        refine Vc.skip' ?_
        refine qZ ?_
        refine Vc.blk ?_
        refine qZ (rZ (wZ rg (o_faP td94 rfl rfl (by rw [sz92]; decide) rfl (wZ rg (o_loadB1 (atL (k := 1) rfl) sz92 ag92 rfl rfl (v := eL (eL eRat) m.P) rfl (mvZ (.int .i64 i) rfl (wZ rg (o_idxL td92 sz22 (by decide) (fun _ => rfl) rfl rfl h.1 ?_))))))))
        replace h := h.2
        refine wZ rg (o_loadI1 sz22 ag22 rfl rfl (v := eL eRat (at' m.P i)) rfl (mvZ (.int .i64 j) rfl (wZ rg (o_idxL td22 sz27 (by decide) (fun _ => rfl) rfl rfl h.1 ?_))))
        replace h := h.2
        refine wZ rg (o_fa td27 rfl rfl (by rw [sz25]; decide) rfl rfl (wZ rg (o_loadI1 sz25 ag25 rfl rfl (v := eL (AV.int .u32) ((at' (at' m.P i) j).Num)) rfl (wZ rg (o_len td25 rfl (wZ rg (o_gtr rfl rfl (mvZ (.bool (decide (4 < (((at' (at' m.P i) j).Num).length : Int)))) rfl ?_))))))))
        refine Wl.guard rfl rfl (fun hb5 => ?_) (fun hb5 => ?_)
        · replace h := h.2 hb5
          refine wZ rg (o_faP td94 rfl rfl (by rw [sz92]; decide) rfl ?_)
          refine Wl.guardT rfl rfl hb5 ?_
          refine wZ rg (o_loadB1 (atL (k := 1) rfl) sz92 ag92 rfl rfl (v := eL (eL eRat) m.P) rfl ?_)
          refine Wl.guardT rfl rfl hb5 ?_
          refine mvZ (.int .i64 i) rfl ?_
          refine Wl.guardT rfl rfl hb5 ?_
          refine wZ rg (o_idxL td92 sz22 (by decide) (fun _ => rfl) rfl rfl h.1 ?_)
          replace h := h.2
          refine Wl.guardT rfl rfl hb5 ?_
          refine wZ rg (o_loadI1 sz22 ag22 rfl rfl (v := eL eRat (at' m.P i)) rfl ?_)
          refine Wl.guardT rfl rfl hb5 ?_
          refine mvZ (.int .i64 j) rfl ?_
          refine Wl.guardT rfl rfl hb5 ?_
          refine wZ rg (o_idxL td22 sz27 (by decide) (fun _ => rfl) rfl rfl h.1 ?_)
          replace h := h.2
          refine Wl.guardT rfl rfl hb5 ?_
          refine wZ rg (o_fa td27 rfl rfl (by rw [sz25]; decide) rfl rfl ?_)
          refine Wl.guardT rfl rfl hb5 ?_
          refine wZ rg (o_loadI1 sz25 ag25 rfl rfl (v := eL (AV.int .u32) ((at' (at' m.P i) j).Den)) rfl ?_)
          refine Wl.guardT rfl rfl hb5 ?_
          refine wZ rg (o_len td25 rfl ?_)
          refine Wl.guardT rfl rfl hb5 ?_
          refine wZ rg (o_gtr rfl rfl (wZ rg (o_pickF rfl hb5 (v := .bool (decide (4 < (((at' (at' m.P i) j).Den).length : Int)))) rfl (nZ ?_))))
          refine Vc.cond' rfl (fun hb6 => ?_) (fun hb6 => ?_)
          · replace h := h.1 hb6
            refine qZ (rZ (asZ (.bool true) rfl (nZ ?_)))
            refine Vc.ret' ?_
            refine res_tmp (v := .bool true) rfl (res_nil ?_)
            show Gives _ (.bool true) _
            exact gives_out hrg (VW.refl _) (hQ _ h)
          replace h := h.2 hb6
          refine Vc.skip' ?_
          refine rZ ?_
          refine mvZ (.int .i64 j) rfl (wZ rg (o_addG rfl rfl h.1 ?_))
          replace h := h.2
          refine asZ (.int .i64 (j + 1)) rfl (nZ ?_)
          exact ⟨(j + 1), (canon (fc vr (fc vr (fc vr (fn)))) (sc rfl (sn))), h⟩
        replace h := h.1 hb5
        refine Wl.guardF rfl rfl hb5 rfl ?_
        refine Wl.guardF rfl rfl hb5 rfl ?_
        refine Wl.guardF rfl rfl hb5 rfl ?_
        refine Wl.guardF rfl rfl hb5 rfl ?_
        refine Wl.guardF rfl rfl hb5 rfl ?_
        refine Wl.guardF rfl rfl hb5 rfl ?_
        refine Wl.guardF rfl rfl hb5 rfl ?_
        refine Wl.guardF rfl rfl hb5 rfl ?_
        refine Wl.guardF rfl rfl hb5 rfl ?_
        refine Wl.guardF rfl rfl hb5 rfl ?_
        refine wZ rg (o_pickT rfl hb5 (v := .bool true) rfl (nZ ?_))
        refine Vc.cond' rfl (fun _ => ?_) (fun hb => Bool.noConfusion hb)
        refine qZ (rZ (asZ (.bool true) rfl (nZ ?_)))
        refine Vc.ret' ?_
        refine res_tmp (v := .bool true) rfl (res_nil ?_)
        show Gives _ (.bool true) _
        exact gives_out hrg (VW.refl _) (hQ _ h)
      replace h := h.2 hb4
      refine Vc.exit' (exB_self ?_)
      refine rZ ?_
      refine mvZ (.int .i64 i) rfl (wZ rg (o_addG rfl rfl h.1 ?_))
      replace h := h.2
      refine asZ (.int .i64 (i + 1)) rfl (nZ ?_)
      exact ⟨(i + 1), (canon (fc vr (fc vr (fn))) (sc rfl (sn))), h⟩
    replace h := h.2 hb2
    refine Vc.exit' (exB_self ?_)
    refine qZ (rZ (asZ (.bool false) rfl (nZ ?_)))
    refine Vc.ret' ?_
    refine res_tmp (v := .bool false) rfl (res_nil ?_)
    show Gives _ (.bool false) _
    exact gives_out hrg (VW.refl _) (hQ _ h)
  replace h := h.1 hb
  refine Wl.guardF rfl rfl hb rfl ?_
  refine Wl.guardF rfl rfl hb rfl ?_
  refine Wl.guardF rfl rfl hb rfl ?_
  refine wZ rg (o_pickT rfl hb (v := .bool true) rfl (nZ ?_))
  refine Vc.cond' rfl (fun _ => ?_) (fun hb => Bool.noConfusion hb)
  refine qZ (rZ (asZ (.bool true) rfl (nZ ?_)))
  refine Vc.ret' ?_
  refine res_tmp (v := .bool true) rfl (res_nil ?_)
  show Gives _ (.bool true) _
  exact gives_out hrg (VW.refl _) (hQ _ h)
end Go.Proofs.Ytonbnfgknijpoaa
