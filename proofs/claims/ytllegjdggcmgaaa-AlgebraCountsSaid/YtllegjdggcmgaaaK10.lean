/- Walks of functions. Conditions: none. -/
import Derived.Test.YtllegjdggcmgaaaWa
import Derived.Test.YtllegjdggcmgaaaGgTy
import Derived.Test.YtllegjdggcmgaaaGd
import Derived.Test.YtllegjdggcmgaaaK3
import Derived.Test.YtllegjdggcmgaaaK1
/- Walks of functions. Conditions: none. -/
namespace Go.Proofs.Ytllegjdggcmgaaa
open Go.Gg
set_option maxRecDepth 100000
theorem algebra_Implies_ctr {a : GDiagram} {b : GDiagram} {Q : Bool → Option Int → Prop} {S : St} {R : AV → St → Prop} (h : algebra_Implies_W a b Q) (hQ : ∀ r1 r2, Q r1 r2 → R (.tuple [AV.bool r1, eErr 83 r2]) S) :
    Ctr Try.prog 49 [eDiagram a, eDiagram b] S R := by
  unfold algebra_Implies_W at h
  refine enterT Try.func49 rfl Try.ntmps49 Try.results49 (by kernel_rfl) (fun rg hrg => ?_)
  refine qZ (rZ (wZ rg (o_box (v := eDiagram a) rfl rfl (kk := 3) rfl (by decide) (fun g1 => (wZ rg (o_box (v := eDiagram b) rfl rfl (kk := 3) rfl (by decide) (fun g2 => (asZ (.bool false) rfl (asZ .niface rfl (nZ (qZ (rZ (wZ rg (o_loadBA (atL (k := 2) rfl) sz25 (by decide) ag25 rfl rfl (v := eDiagram a) rfl ?_))))))))))))))
  refine wZ rg (o_loadBA (atL (k := 3) rfl) sz25 (by decide) ag25 rfl rfl (v := eDiagram b) rfl (wZ rg (o_bslice td142 ok25 zav25 (es := [eDiagram a, eDiagram b]) rfl (kk := 3) rfl rfl rfl rfl rfl rfl (fun g3 => ?_))))
  refine Wl.wk (canon_freeze (k := 12) (xs := List.map eDiagram [a, b]) rfl (es := [(12, eL eDiagram [a, b])]) (fc (frz_full rfl) (fn)) (m := []) (sn)) ?_
  refine wZ rg (o_call (us := [eL eDiagram [a, b]]) rfl (vl' vr (vn)) (algebra_open_ctr rg 1400000 1400001 1400002 1400003 1400004 1400005 h (fun r r1 h => ?_) (fun order place nodes unique memo r r1 g4 g5 g6 g7 g8 g9 h => ?_)))
  · replace h := h.1 rfl
    refine mvZ (.tuple [.nilp, eL (AV.int .i64) r, eErr 83 r1]) rfl (wZ rg (o_extract (v := .nilp) rfl rfl rfl (wZ rg (o_extract (v := eL (AV.int .i64) r) rfl rfl rfl (wZ rg (o_extract (v := eErr 83 r1) rfl rfl rfl (asZ .nilp rfl (asZ (eL (AV.int .i64) r) rfl (asZ (eErr 83 r1) rfl (nZ (qZ (qZ (rZ (mvZ (eErr 83 r1) rfl (wZ rg (o_isnon td29 (E := 83) rfl rfl rfl (nZ ?_)))))))))))))))))
    refine Vc.cond' rfl (fun hb1 => ?_) (fun hb1 => ?_)
    · replace h := h.1 hb1
      refine qZ (rZ (mvZ (eErr 83 r1) rfl (asZ (.bool false) rfl (asZ (eErr 83 r1) rfl (nZ ?_)))))
      refine Vc.ret' ?_
      refine res_tmp (v := .bool false) rfl (res_tmp (v := eErr 83 r1) rfl (res_nil ?_))
      show Gives _ (.tuple [.bool false, eErr 83 r1]) _
      exact gives_out hrg (VW.tupL (vl' vr (vl' vr (vn)))) (hQ _ _ h)
    replace h := h.2 hb1
    refine Vc.skip' ?_
    refine qZ ?_
    exact h.elim
  replace h := h.2 (order, place, nodes, unique, memo) rfl
  refine Wl.eqS (sy_c (sy_c (sy_c (sy_c (sy_c (sy_c (sx_n) setL) setL) setL) setL) setL) setL) ?_
  refine mvZ (.tuple [.ptr rg 1400000 g4 0 0, eL (AV.int .i64) r, eErr 83 r1]) rfl (wZ rg (o_extract (v := .ptr rg 1400000 g4 0 0) rfl rfl rfl (wZ rg (o_extract (v := eL (AV.int .i64) r) rfl rfl rfl (wZ rg (o_extract (v := eErr 83 r1) rfl rfl rfl (asZ (.ptr rg 1400000 g4 0 0) rfl (asZ (eL (AV.int .i64) r) rfl (asZ (eErr 83 r1) rfl (nZ (qZ (qZ (rZ (mvZ (eErr 83 r1) rfl ?_))))))))))))))
  refine wZ rg (o_isnon td29 (E := 83) rfl rfl rfl (nZ ?_))
  refine Vc.cond' rfl (fun hb => ?_) (fun hb => ?_)
  · replace h := h.1 hb
    refine qZ (rZ (mvZ (eErr 83 r1) rfl (asZ (.bool false) rfl (asZ (eErr 83 r1) rfl (nZ ?_)))))
    refine Vc.ret' ?_
    refine res_tmp (v := .bool false) rfl (res_tmp (v := eErr 83 r1) rfl (res_nil ?_))
    show Gives _ (.tuple [.bool false, eErr 83 r1]) _
    exact gives_out hrg (VW.tupL (vl' vr (vl' vr (vn)))) (hQ _ _ h)
  replace h := h.2 hb
  refine Vc.skip' ?_
  refine qZ ?_
  have hg := h.1
  replace h := h.2
  have hg1 := h.1
  replace h := h.2
  obtain ⟨u, u1, u2, r2, hc, h⟩ := h
  obtain ⟨_, hc⟩ := hc
  refine Vc.drawn' mixed rg (usOf [(7, wc (fun _ => .int .i64 r2) [(rg, 1400001), (rg, 1400002)] [(rg, 1400000), (rg, 1400003), (rg, 1400004), (rg, 1400005)] (fun gm => [(rg, 1400000, .arr 5 [.agg [.sl 1 rg 1400001 g5 0 order.length, .sl 1 rg 1400002 g6 0 place.length, .sl 3 rg 1400003 (gm 0) 0 u.length, .map rg 1400004 g8, .map rg 1400005 g9]], g4), (rg, 1400003, .arr 3 (List.map eDNode u), (gm 0)), (rg, 1400004, mapE (AV.int .i64) (.many [.i64, .i64, .i64]) u1, g8), (rg, 1400005, mapE (AV.int .i64) (.many [.i64, .i64, .i64]) u2, g9)]))]) (by kernel_rfl) ?_
  refine dP rfl rfl (o_move (v := .ptr rg 1400000 g4 0 0) rfl (dP rfl rfl (o_move (v := eL (AV.int .i64) r) rfl (dP rfl rfl (o_idxL td22 sz3 (by decide) (fun _ => rfl) rfl rfl hg (dP rfl rfl (o_loadI1 sz3 ag3 rfl rfl (v := .int .i64 (at' r 0)) rfl (dP rfl rfl (o_move (v := eL (AV.int .i64) r) rfl (dP rfl rfl (o_idxL td22 sz3 (by decide) (fun _ => rfl) rfl rfl hg1 ?_)))))))))))
  refine dP rfl rfl (o_loadI1 sz3 ag3 rfl rfl (v := .int .i64 (at' r 1)) rfl ?_)
  refine dCE (vs := [.ptr rg 1400000 g4 0 0, AV.int .i64 (at' r 0), AV.int .i64 (at' r 1), AV.int .i64 1]) (V := fun _ => .int .i64 r2) (rd := [(rg, 1400001), (rg, 1400002)]) (wk := [(rg, 1400000), (rg, 1400003), (rg, 1400004), (rg, 1400005)]) (wr := fun gm => [(rg, 1400000, .arr 5 [.agg [.sl 1 rg 1400001 g5 0 order.length, .sl 1 rg 1400002 g6 0 place.length, .sl 3 rg 1400003 (gm 0) 0 u.length, .map rg 1400004 g8, .map rg 1400005 g9]], g4), (rg, 1400003, .arr 3 (List.map eDNode u), (gm 0)), (rg, 1400004, mapE (AV.int .i64) (.many [.i64, .i64, .i64]) u1, g8), (rg, 1400005, mapE (AV.int .i64) (.many [.i64, .i64, .i64]) u2, g9)]) rfl (vl' vr (vl' vr (vl' vr (vl' vr (vn))))) rfl (cfn) (by simp) (fun _ => rfl) (fun S' hA hB => ctrX (sx_c (ag hB 0 rfl (atL (k := 1400000) rfl)) (sx_c (ag hB 1 rfl (atL (k := 1400003) rfl)) (sx_c (ag hB 2 rfl (atL (k := 1400004) rfl)) (sx_c (ag hB 3 rfl (atL (k := 1400005) rfl)) (sx_c (ag hA 0 rfl (atL (k := 1400001) rfl)) (sx_c (ag hA 1 rfl (atL (k := 1400002) rfl)) (sx_n))))))) (decision_Table__Choose__e_ctr (dk_c (ni_c (ni_o rfl) (ni_c (ni_o rfl) (ni_c (ni_o rfl) (ni_c (ni_o rfl) (ni_c (ni_o rfl) (ni_n)))))) (dk_c (ni_c (ni_o rfl) (ni_c (ni_o rfl) (ni_c (ni_o rfl) (ni_c (ni_o rfl) (ni_n))))) (dk_c (ni_c (ni_o rfl) (ni_c (ni_o rfl) (ni_c (ni_o rfl) (ni_n)))) (dk_c (ni_c (ni_o rfl) (ni_c (ni_o rfl) (ni_n))) (dk_c (ni_c (ni_o rfl) (ni_n)) (dk_c (ni_n) (dk_n))))))) hc (fun _ _ _ _ h3 he => by obtain ⟨rfl, rfl, rfl, rfl⟩ := he; exact ⟨fun i => [h3].getD i 0, rfl, sm_c (sm_c (sm_c (sm_c (sx_c (ag hA 0 rfl (atL (k := 1400001) rfl)) (sx_c (ag hA 1 rfl (atL (k := 1400002) rfl)) (sx_n))))))⟩))) (fun gm => ?_)
  refine vdT.eqS (sa_c (sa_c (sa_c (sa_c (sa_n) setL) setL) setL) setL) ?_
  refine dP rfl rfl (o_eql rfl rfl (dP rfl rfl (o_assign (v := .bool (r2 == 1)) rfl (dP rfl rfl (o_assign (v := .niface) rfl (dN ?_))))))
  refine Vc.ret' ?_
  refine res_tmp (v := .bool (r2 == 1)) rfl (res_tmp (v := .niface) rfl (res_nil ?_))
  show Gives _ (.tuple [.bool (r2 == 1), .niface]) _
  exact gives_out hrg (VW.tupL (vl' vr (vl' vr (vn)))) (hQ _ _ h)
end Go.Proofs.Ytllegjdggcmgaaa
