/- Walks of functions. Conditions: none. -/
import Derived.Test.YtllegjdggcmgaaaWa
import Derived.Test.YtllegjdggcmgaaaGgTy
import Derived.Test.YtllegjdggcmgaaaGd
import Derived.Test.YtllegjdggcmgaaaK1
import Derived.Test.YtllegjdggcmgaaaK3
/- Walks of functions. Conditions: none. -/
namespace Go.Proofs.Ytllegjdggcmgaaa
open Go.Gg
set_option maxRecDepth 100000
theorem decision_Table__Not__e_ctr {a : Int} {order : List Int} {place : List Int} {nodes : List GDNode} {unique : GMap Int} {memo : GMap Int} {q0 k0 g0 q1 k1 g1 q2 k2 g2 q3 k3 g3 q4 k4 g4 q5 k5 g5 : Nat} (hdk : DK [(q0, k0), (q3, k3), (q4, k4), (q5, k5), (q1, k1), (q2, k2)]) {Q : List GDNode → GMap Int → GMap Int → Int → Prop} {S : St} {R : AV → St → Prop} (h : decision_Table__Not__e_W a order place nodes unique memo Q) (hQ : ∀ r1 r2 r3 r4, ∀ h3, Q r1 r2 r3 r4 → R (AV.int .i64 r4) (stX S [(q0, k0, .arr 5 [.agg [.sl 1 q1 k1 g1 0 order.length, .sl 1 q2 k2 g2 0 place.length, .sl 3 q3 k3 h3 0 r1.length, .map q4 k4 g4, .map q5 k5 g5]], g0), (q3, k3, .arr 3 (List.map eDNode r1), h3), (q4, k4, mapE (AV.int .i64) (.many [.i64, .i64, .i64]) r2, g4), (q5, k5, mapE (AV.int .i64) (.many [.i64, .i64, .i64]) r3, g5), (q1, k1, .arr 1 (List.map (AV.int .i64) order), g1), (q2, k2, .arr 1 (List.map (AV.int .i64) place), g2)])) :
    Ctr Try.prog 125 [.ptr q0 k0 g0 0 0, AV.int .i64 a] (stX S [(q0, k0, .arr 5 [.agg [.sl 1 q1 k1 g1 0 order.length, .sl 1 q2 k2 g2 0 place.length, .sl 3 q3 k3 g3 0 nodes.length, .map q4 k4 g4, .map q5 k5 g5]], g0), (q3, k3, .arr 3 (List.map eDNode nodes), g3), (q4, k4, mapE (AV.int .i64) (.many [.i64, .i64, .i64]) unique, g4), (q5, k5, mapE (AV.int .i64) (.many [.i64, .i64, .i64]) memo, g5), (q1, k1, .arr 1 (List.map (AV.int .i64) order), g1), (q2, k2, .arr 1 (List.map (AV.int .i64) place), g2)]) R := by
  unfold decision_Table__Not__e_W at h
  refine enterT Try.func125 rfl Try.ntmps125 Try.results125 (by kernel_rfl) (fun rg hrg => ?_)
  have hdx : DX [(q0, k0, .arr 5 [.agg [.sl 1 q1 k1 g1 0 order.length, .sl 1 q2 k2 g2 0 place.length, .sl 3 q3 k3 g3 0 nodes.length, .map q4 k4 g4, .map q5 k5 g5]], g0), (q3, k3, .arr 3 (List.map eDNode nodes), g3), (q4, k4, mapE (AV.int .i64) (.many [.i64, .i64, .i64]) unique, g4), (q5, k5, mapE (AV.int .i64) (.many [.i64, .i64, .i64]) memo, g5), (q1, k1, .arr 1 (List.map (AV.int .i64) order), g1), (q2, k2, .arr 1 (List.map (AV.int .i64) place), g2)] := hdk
  have hfr := fun X' e => fresh_set (S := S) (rg := rg) (X := [(q0, k0, .arr 5 [.agg [.sl 1 q1 k1 g1 0 order.length, .sl 1 q2 k2 g2 0 place.length, .sl 3 q3 k3 g3 0 nodes.length, .map q4 k4 g4, .map q5 k5 g5]], g0), (q3, k3, .arr 3 (List.map eDNode nodes), g3), (q4, k4, mapE (AV.int .i64) (.many [.i64, .i64, .i64]) unique, g4), (q5, k5, mapE (AV.int .i64) (.many [.i64, .i64, .i64]) memo, g5), (q1, k1, .arr 1 (List.map (AV.int .i64) order), g1), (q2, k2, .arr 1 (List.map (AV.int .i64) place), g2)]) (X' := X') e hrg
  have hne0 := fresh_ne hdx hrg 0 rfl
  have hne3 := fresh_ne hdx hrg 1 rfl
  have hne4 := fresh_ne hdx hrg 2 rfl
  have hne5 := fresh_ne hdx hrg 3 rfl
  have hne1 := fresh_ne hdx hrg 4 rfl
  have hne2 := fresh_ne hdx hrg 5 rfl
  refine qZ (rZ (asZ (.int .i64 0) rfl (nZ (qZ (rZ (mvZ (.ptr q0 k0 g0 0 0) rfl (mvZ (.int .i64 a) rfl ?_)))))))
  obtain ⟨_, h⟩ := h
  refine wZ rg (o_call (us := [.ptr q0 k0 g0 0 0, AV.int .i64 a, AV.int .i64 0, AV.int .i64 1]) rfl (vl' vr (vl' vr (vl' vr (vl' vr (vn))))) (ctrX (sx_c (atX hne0 hdx 0 rfl) (sx_c (atX hne3 hdx 1 rfl) (sx_c (atX hne4 hdx 2 rfl) (sx_c (atX hne5 hdx 3 rfl) (sx_c (atX hne1 hdx 4 rfl) (sx_c (atX hne2 hdx 5 rfl) (sx_n))))))) (decision_Table__Choose__e_ctr (dk_c (ni_c (dk_at 0 1 hdk rfl rfl rfl) (ni_c (dk_at 0 2 hdk rfl rfl rfl) (ni_c (dk_at 0 3 hdk rfl rfl rfl) (ni_c (dk_at 0 4 hdk rfl rfl rfl) (ni_c (dk_at 0 5 hdk rfl rfl rfl) (ni_n)))))) (dk_c (ni_c (dk_at 1 2 hdk rfl rfl rfl) (ni_c (dk_at 1 3 hdk rfl rfl rfl) (ni_c (dk_at 1 4 hdk rfl rfl rfl) (ni_c (dk_at 1 5 hdk rfl rfl rfl) (ni_n))))) (dk_c (ni_c (dk_at 2 3 hdk rfl rfl rfl) (ni_c (dk_at 2 4 hdk rfl rfl rfl) (ni_c (dk_at 2 5 hdk rfl rfl rfl) (ni_n)))) (dk_c (ni_c (dk_at 3 4 hdk rfl rfl rfl) (ni_c (dk_at 3 5 hdk rfl rfl rfl) (ni_n))) (dk_c (ni_c (dk_at 4 5 hdk rfl rfl rfl) (ni_n)) (dk_c (ni_n) (dk_n))))))) h fun u u1 u2 r g6 h => ?_)))
  refine Wl.eqS (sy_c (sy_c (sy_c (sy_c (sx_c (atX hne1 hdx 4 rfl) (sx_c (atX hne2 hdx 5 rfl) (sx_n))) (setX hne5 hdx 3 rfl rfl)) (setX hne4 hdx 2 rfl rfl)) (setX hne3 hdx 1 rfl rfl)) (setX hne0 hdx 0 rfl rfl)) ?_
  refine asZ (.int .i64 r) rfl (nZ ?_)
  refine Vc.ret' ?_
  refine res_tmp (v := .int .i64 r) rfl (res_nil ?_)
  show Gives _ (.int .i64 r) _
  exact gives_out (hfr _ rfl) (VW.refl _) (hQ _ _ _ _ _ h)
end Go.Proofs.Ytllegjdggcmgaaa
/- Walks of functions. Conditions: none. -/
namespace Go.Proofs.Ytllegjdggcmgaaa
open Go.Gg
set_option maxRecDepth 100000
theorem algebra_Not_ctr {d : GDiagram} {Q : GDiagram → Option Int → Prop} {S : St} {R : AV → St → Prop} (h : algebra_Not_W d Q) (hQ : ∀ r1 r2, Q r1 r2 → R (.tuple [eDiagram r1, eErr 83 r2]) S) :
    Ctr Try.prog 35 [eDiagram d] S R := by
  unfold algebra_Not_W at h
  refine enterT Try.func35 rfl Try.ntmps35 Try.results35 (by kernel_rfl) (fun rg hrg => ?_)
  refine qZ (rZ (wZ rg (o_box (v := eDiagram d) rfl rfl (kk := 3) rfl (by decide) (fun g1 => (wZ rg (o_alloc zav25 ok25 (kk := 3) rfl (fun g2 => (asZ .niface rfl (nZ (qZ (rZ (wZ rg (o_loadBA (atL (k := 1) rfl) sz25 (by decide) ag25 rfl rfl (v := eDiagram d) rfl (wZ rg (o_bslice td142 ok25 zav25 (es := [eDiagram d]) rfl (kk := 3) rfl rfl rfl rfl rfl rfl (fun g3 => ?_))))))))))))))))
  refine Wl.wk (canon_freeze (k := 9) (xs := List.map eDiagram [d]) rfl (es := [(2, .ptr rg 2 g2 0 0), (9, eL eDiagram [d])]) (fc vr (fc (frz_full rfl) (fn))) (m := [(2, .arr 3 [.agg [.nil, .nil, .int .i64 0]], g2)]) (sc rfl (sn))) ?_
  refine wZ rg (o_call (us := [eL eDiagram [d]]) rfl (vl' vr (vn)) (algebra_open_ctr rg 1100000 1100001 1100002 1100003 1100004 1100005 h (fun r r1 h => ?_) (fun order place nodes unique memo r r1 g4 g5 g6 g7 g8 g9 h => ?_)))
  · replace h := h.1 rfl
    refine mvZ (.tuple [.nilp, eL (AV.int .i64) r, eErr 83 r1]) rfl (wZ rg (o_extract (v := .nilp) rfl rfl rfl (wZ rg (o_extract (v := eL (AV.int .i64) r) rfl rfl rfl (wZ rg (o_extract (v := eErr 83 r1) rfl rfl rfl (asZ .nilp rfl (asZ (eL (AV.int .i64) r) rfl (asZ (eErr 83 r1) rfl (nZ (qZ (qZ (rZ (mvZ (eErr 83 r1) rfl (wZ rg (o_isnon td29 (E := 83) rfl rfl rfl (nZ ?_)))))))))))))))))
    refine Vc.cond' rfl (fun hb1 => ?_) (fun hb1 => ?_)
    · replace h := h.1 hb1
      refine qZ (rZ (wZ rg (o_build td25 zav25 bok25 szs25 sz25 (ps := []) rfl rfl (v := .agg [.nil, .nil, .int .i64 0]) rfl (mvZ (eErr 83 r1) rfl (wZ rg (o_storeB (atL (k := 2) rfl) sz25 (by decide) rfl (w := .agg [.nil, .nil, .int .i64 0]) rfl rfl rfl (v := .agg [.nil, .nil, .int .i64 0]) rfl setL (asZ (eErr 83 r1) rfl (nZ ?_))))))))
      refine Vc.ret' ?_
      refine res_cellA (atL (k := 2) rfl) sz25 (by decide) ag25 rfl rfl (v := .agg [.nil, .nil, .int .i64 0]) rfl (res_tmp (v := eErr 83 r1) rfl (res_nil ?_))
      show Gives _ (.tuple [.agg [.nil, .nil, .int .i64 0], eErr 83 r1]) _
      exact gives_out hrg (VW.tupL (vl' (VW.aggL (vl' (VW.nilL) (vl' (VW.nilL) (vl' vr (vn))))) (vl' vr (vn)))) (hQ _ _ h)
    replace h := h.2 hb1
    refine Vc.skip' ?_
    refine qZ (rZ (mvZ .nilp rfl (mvZ .nilp rfl (mvZ (eL (AV.int .i64) r) rfl (wZ rg (o_idxL td22 sz3 (by decide) (fun _ => rfl) rfl rfl h.1 ?_))))))
    replace h := h.2
    refine wZ rg (o_loadI1 sz3 ag3 rfl rfl (v := .int .i64 (at' r 0)) rfl ?_)
    exact h.elim
  replace h := h.2 (order, place, nodes, unique, memo) rfl
  refine Wl.eqS (sy_c (sy_c (sy_c (sy_c (sy_c (sy_c (sx_n) setL) setL) setL) setL) setL) setL) ?_
  refine mvZ (.tuple [.ptr rg 1100000 g4 0 0, eL (AV.int .i64) r, eErr 83 r1]) rfl (wZ rg (o_extract (v := .ptr rg 1100000 g4 0 0) rfl rfl rfl (wZ rg (o_extract (v := eL (AV.int .i64) r) rfl rfl rfl (wZ rg (o_extract (v := eErr 83 r1) rfl rfl rfl (asZ (.ptr rg 1100000 g4 0 0) rfl (asZ (eL (AV.int .i64) r) rfl (asZ (eErr 83 r1) rfl (nZ (qZ (qZ (rZ (mvZ (eErr 83 r1) rfl ?_))))))))))))))
  refine wZ rg (o_isnon td29 (E := 83) rfl rfl rfl (nZ ?_))
  refine Vc.cond' rfl (fun hb => ?_) (fun hb => ?_)
  · replace h := h.1 hb
    refine qZ (rZ (wZ rg (o_build td25 zav25 bok25 szs25 sz25 (ps := []) rfl rfl (v := .agg [.nil, .nil, .int .i64 0]) rfl (mvZ (eErr 83 r1) rfl (wZ rg (o_storeB (atL (k := 2) rfl) sz25 (by decide) rfl (w := .agg [.nil, .nil, .int .i64 0]) rfl rfl rfl (v := .agg [.nil, .nil, .int .i64 0]) rfl setL (asZ (eErr 83 r1) rfl (nZ ?_))))))))
    refine Vc.ret' ?_
    refine res_cellA (atL (k := 2) rfl) sz25 (by decide) ag25 rfl rfl (v := .agg [.nil, .nil, .int .i64 0]) rfl (res_tmp (v := eErr 83 r1) rfl (res_nil ?_))
    show Gives _ (.tuple [.agg [.nil, .nil, .int .i64 0], eErr 83 r1]) _
    exact gives_out hrg (VW.tupL (vl' (VW.aggL (vl' (VW.nilL) (vl' (VW.nilL) (vl' vr (vn))))) (vl' vr (vn)))) (hQ _ _ h)
  replace h := h.2 hb
  refine Vc.skip' ?_
  refine qZ (rZ (mvZ (.ptr rg 1100000 g4 0 0) rfl (mvZ (.ptr rg 1100000 g4 0 0) rfl (mvZ (eL (AV.int .i64) r) rfl (wZ rg (o_idxL td22 sz3 (by decide) (fun _ => rfl) rfl rfl h.1 ?_))))))
  replace h := h.2
  refine wZ rg (o_loadI1 sz3 ag3 rfl rfl (v := .int .i64 (at' r 0)) rfl ?_)
  refine wZ rg (o_call (us := [.ptr rg 1100000 g4 0 0, AV.int .i64 (at' r 0)]) rfl (vl' vr (vl' vr (vn))) (ctrX (sx_c (atL (k := 1100000) rfl) (sx_c (atL (k := 1100003) rfl) (sx_c (atL (k := 1100004) rfl) (sx_c (atL (k := 1100005) rfl) (sx_c (atL (k := 1100001) rfl) (sx_c (atL (k := 1100002) rfl) (sx_n))))))) (decision_Table__Not__e_ctr (dk_c (ni_c (ni_o rfl) (ni_c (ni_o rfl) (ni_c (ni_o rfl) (ni_c (ni_o rfl) (ni_c (ni_o rfl) (ni_n)))))) (dk_c (ni_c (ni_o rfl) (ni_c (ni_o rfl) (ni_c (ni_o rfl) (ni_c (ni_o rfl) (ni_n))))) (dk_c (ni_c (ni_o rfl) (ni_c (ni_o rfl) (ni_c (ni_o rfl) (ni_n)))) (dk_c (ni_c (ni_o rfl) (ni_c (ni_o rfl) (ni_n))) (dk_c (ni_c (ni_o rfl) (ni_n)) (dk_c (ni_n) (dk_n))))))) h fun u u1 u2 r2 g10 h => ?_)))
  refine Wl.eqS (sy_c (sy_c (sy_c (sy_c (sx_c (atL (k := 1100001) rfl) (sx_c (atL (k := 1100002) rfl) (sx_n))) setL) setL) setL) setL) ?_
  refine wZ rg (o_call (us := [.ptr rg 1100000 g4 0 0, AV.int .i64 r2]) rfl (vl' vr (vl' vr (vn))) (ctrX (sx_c (atL (k := 1100000) rfl) (sx_c (atL (k := 1100001) rfl) (sx_c (atL (k := 1100002) rfl) (sx_c (atL (k := 1100003) rfl) (sx_c (atL (k := 1100004) rfl) (sx_c (atL (k := 1100005) rfl) (sx_n))))))) (algebra_result__e_ctr (dk_c (ni_c (ni_o rfl) (ni_c (ni_o rfl) (ni_c (ni_o rfl) (ni_c (ni_o rfl) (ni_c (ni_o rfl) (ni_n)))))) (dk_c (ni_c (ni_o rfl) (ni_c (ni_o rfl) (ni_c (ni_o rfl) (ni_c (ni_o rfl) (ni_n))))) (dk_c (ni_c (ni_o rfl) (ni_c (ni_o rfl) (ni_c (ni_o rfl) (ni_n)))) (dk_c (ni_c (ni_o rfl) (ni_c (ni_o rfl) (ni_n))) (dk_c (ni_c (ni_o rfl) (ni_n)) (dk_c (ni_n) (dk_n))))))) h fun r3 r4 h => ?_)))
  refine Wl.eqS (sx_c (atL (k := 1100000) rfl) (sx_c (atL (k := 1100001) rfl) (sx_c (atL (k := 1100002) rfl) (sx_c (atL (k := 1100003) rfl) (sx_c (atL (k := 1100004) rfl) (sx_c (atL (k := 1100005) rfl) (sx_n))))))) ?_
  refine wZ rg (o_extract (v := eDiagram r3) rfl rfl rfl (wZ rg (o_extract (v := eErr 83 r4) rfl rfl rfl (wZ rg (o_storeB (atL (k := 2) rfl) sz25 (by decide) rfl (w := eDiagram r3) rfl rfl rfl (v := eDiagram r3) rfl setL (asZ (eErr 83 r4) rfl (nZ ?_)))))))
  refine Vc.ret' ?_
  refine res_cellA (atL (k := 2) rfl) sz25 (by decide) ag25 rfl rfl (v := eDiagram r3) rfl (res_tmp (v := eErr 83 r4) rfl (res_nil ?_))
  show Gives _ (.tuple [eDiagram r3, eErr 83 r4]) _
  exact gives_out hrg (VW.tupL (vl' vr (vl' vr (vn)))) (hQ _ _ h)
end Go.Proofs.Ytllegjdggcmgaaa
