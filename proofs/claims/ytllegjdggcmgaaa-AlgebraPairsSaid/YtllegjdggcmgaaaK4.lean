/- Walks of functions. Conditions: none. -/
import Derived.Test.YtllegjdggcmgaaaWa
import Derived.Test.YtllegjdggcmgaaaGgTy
import Derived.Test.YtllegjdggcmgaaaGd
import Derived.Test.YtllegjdggcmgaaaK3
import Derived.Test.YtllegjdggcmgaaaK1
import Derived.Test.YtllegjdggcmgaaaK2
/- Walks of functions. Conditions: none. -/
namespace Go.Proofs.Ytllegjdggcmgaaa
open Go.Gg
set_option maxRecDepth 100000
theorem ref15_add__e_ctr {fu : Nat} : ∀ {Order : List Int} {Root : Int} {table : List Bool} {level : Int} {state : Int} {u : List GDNode} {q0 k0 g0 : Nat} (hdk : DK [(q0, k0)]) {Q : List GDNode → List Int → Int → Int → Prop} {S : St} {R : AV → St → Prop} (h : ref15_add__e_W fu Order Root table level state u Q) (hQ : ∀ r1 r2 r3 r4, ∀ h0, Q r1 r2 r3 r4 → R (.tuple [.agg [eL (AV.int .i64) r2, .sl 3 q0 k0 h0 0 r1.length, .int .i64 r3], AV.int .i64 r4]) (stX S [(q0, k0, .arr 3 (List.map eDNode r1), h0)])),
    Ctr Try.prog 188 [.agg [eL (AV.int .i64) Order, .sl 3 q0 k0 g0 0 u.length, .int .i64 Root], eL AV.bool table, AV.int .i64 level, AV.int .i64 state] (stX S [(q0, k0, .arr 3 (List.map eDNode u), g0)]) R := by
  induction fu with
  | zero =>
    intro Order Root table level state u q0 k0 g0 hdk Q S R h hQ
    exact False.elim h
  | succ fu ih =>
  intro Order Root table level state u q0 k0 g0 hdk Q S R h hQ
  rw [ref15_add__e_W] at h
  refine enterT Try.func188 rfl Try.ntmps188 Try.results188 (by kernel_rfl) (fun rg hrg => ?_)
  have hdx : DX [(q0, k0, .arr 3 (List.map eDNode u), g0)] := hdk
  have hfr := fun X' e => fresh_set (S := S) (rg := rg) (X := [(q0, k0, .arr 3 (List.map eDNode u), g0)]) (X' := X') e hrg
  have hne0 := fresh_ne hdx hrg 0 rfl
  refine qZ (rZ (wZ rg (o_box (v := .agg [eL (AV.int .i64) Order, .sl 3 q0 k0 g0 0 u.length, .int .i64 Root]) rfl rfl (kk := 3) rfl (by decide) (fun g1 => (wZ rg (o_alloc zav25 ok25 (kk := 3) rfl (fun g2 => (asZ (.int .i64 0) rfl (nZ (qZ (qZ (rZ (mvZ (.int .i64 level) rfl (wZ rg (o_faP td25 rfl rfl (by rw [sz22]; decide) rfl ?_)))))))))))))))
  refine wZ rg (o_loadB1 (atL (k := 4) rfl) sz22 ag22 rfl rfl (v := eL (AV.int .i64) Order) rfl (wZ rg (o_len td22 rfl (wZ rg (o_eql rfl rfl (nZ ?_))))))
  refine Vc.cond' rfl (fun hb => ?_) (fun hb => ?_)
  · replace h := h.1 hb
    refine qZ (qZ (rZ (mvZ (eL AV.bool table) rfl (mvZ (.int .i64 state) rfl (wZ rg (o_idxL td139 sz4 (by decide) (fun _ => rfl) rfl rfl h.1 ?_))))))
    replace h := h.2
    refine wZ rg (o_loadI1 sz4 ag4 rfl rfl (v := .bool (at' table state)) rfl (nZ ?_))
    refine Vc.cond' rfl (fun hb1 => ?_) (fun hb1 => ?_)
    · replace h := h.1 hb1
      refine qZ (rZ (wZ rg (o_loadBA (atL (k := 4) rfl) sz25 (by decide) ag25 rfl rfl (v := .agg [eL (AV.int .i64) Order, .sl 3 q0 k0 g0 0 u.length, .int .i64 Root]) rfl (wZ rg (o_storeB (atL (k := 8) rfl) sz25 (by decide) rfl (w := .agg [eL (AV.int .i64) Order, .sl 3 q0 k0 g0 0 u.length, .int .i64 Root]) rfl rfl rfl (v := .agg [eL (AV.int .i64) Order, .sl 3 q0 k0 g0 0 u.length, .int .i64 Root]) rfl setL ?_)))))
      refine asZ (.int .i64 1) rfl (nZ ?_)
      refine Vc.ret' ?_
      refine res_cellA (atL (k := 8) rfl) sz25 (by decide) ag25 rfl rfl (v := .agg [eL (AV.int .i64) Order, .sl 3 q0 k0 g0 0 u.length, .int .i64 Root]) rfl (res_tmp (v := .int .i64 1) rfl (res_nil ?_))
      show Gives _ (.tuple [.agg [eL (AV.int .i64) Order, .sl 3 q0 k0 g0 0 u.length, .int .i64 Root], .int .i64 1]) _
      exact gives_out (hfr _ rfl) (VW.tupL (vl' vr (vl' vr (vn)))) (hQ _ _ _ _ _ h)
    replace h := h.2 hb1
    refine Vc.skip' ?_
    refine qZ (rZ (wZ rg (o_loadBA (atL (k := 4) rfl) sz25 (by decide) ag25 rfl rfl (v := .agg [eL (AV.int .i64) Order, .sl 3 q0 k0 g0 0 u.length, .int .i64 Root]) rfl (wZ rg (o_storeB (atL (k := 8) rfl) sz25 (by decide) rfl (w := .agg [eL (AV.int .i64) Order, .sl 3 q0 k0 g0 0 u.length, .int .i64 Root]) rfl rfl rfl (v := .agg [eL (AV.int .i64) Order, .sl 3 q0 k0 g0 0 u.length, .int .i64 Root]) rfl setL ?_)))))
    refine asZ (.int .i64 0) rfl (nZ ?_)
    refine Vc.ret' ?_
    refine res_cellA (atL (k := 8) rfl) sz25 (by decide) ag25 rfl rfl (v := .agg [eL (AV.int .i64) Order, .sl 3 q0 k0 g0 0 u.length, .int .i64 Root]) rfl (res_tmp (v := .int .i64 0) rfl (res_nil ?_))
    show Gives _ (.tuple [.agg [eL (AV.int .i64) Order, .sl 3 q0 k0 g0 0 u.length, .int .i64 Root], .int .i64 0]) _
    exact gives_out (hfr _ rfl) (VW.tupL (vl' vr (vl' vr (vn)))) (hQ _ _ _ _ _ h)
  replace h := h.2 hb
  refine Vc.skip' ?_
  refine qZ (rZ (wZ rg (o_loadBA (atL (k := 4) rfl) sz25 (by decide) ag25 rfl rfl (v := .agg [eL (AV.int .i64) Order, .sl 3 q0 k0 g0 0 u.length, .int .i64 Root]) rfl (mvZ (eL AV.bool table) rfl (mvZ (.int .i64 level) rfl (wZ rg (o_addG rfl rfl h.1 ?_)))))))
  replace h := h.2
  refine mvZ (.int .i64 state) rfl (wZ rg (o_call (us := [.agg [eL (AV.int .i64) Order, .sl 3 q0 k0 g0 0 u.length, .int .i64 Root], eL AV.bool table, AV.int .i64 (level + 1), AV.int .i64 state]) rfl (vl' vr (vl' vr (vl' vr (vl' vr (vn))))) (ctrX (sx_c (atX hne0 hdx 0 rfl) (sx_n)) (ih (dk_c (ni_n) (dk_n)) h fun u1 r r1 r2 g3 h => ?_))))
  refine Wl.eqS (sy_c (sx_n) (setX hne0 hdx 0 rfl rfl)) ?_
  refine mvZ (.tuple [.agg [eL (AV.int .i64) r, .sl 3 q0 k0 g3 0 u1.length, .int .i64 r1], .int .i64 r2]) rfl (wZ rg (o_extract (v := .agg [eL (AV.int .i64) r, .sl 3 q0 k0 g3 0 u1.length, .int .i64 r1]) rfl rfl rfl (wZ rg (o_extract (v := .int .i64 r2) rfl rfl rfl ?_))))
  refine wZ rg (o_storeB (atL (k := 4) rfl) sz25 (by decide) rfl (w := .agg [eL (AV.int .i64) r, .sl 3 q0 k0 g3 0 u1.length, .int .i64 r1]) rfl rfl rfl (v := .agg [eL (AV.int .i64) r, .sl 3 q0 k0 g3 0 u1.length, .int .i64 r1]) rfl setL (asZ (.int .i64 r2) rfl (nZ (qZ ?_))))
  have hg := h.1
  replace h := h.2
  have hg1 := h.1
  replace h := h.2
  have hg2 := h.1
  replace h := h.2
  obtain ⟨u2, r3, r4, r5, hc, h⟩ := h
  refine Vc.drawn' mixed rg (usOf [(12, wc (fun gm => .tuple [.agg [eL (AV.int .i64) r3, .sl 3 q0 k0 (gm 0) 0 u2.length, .int .i64 r4], .int .i64 r5]) [] [(q0, k0)] (fun gm => [(q0, k0, .arr 3 (List.map eDNode u2), (gm 0))]))]) (by kernel_rfl) ?_
  refine dL (E := ([(rg, 4)], [])) rfl rfl (by simp) (cfn) (o_loadBA (atL (k := 4) rfl) sz25 (by decide) ag25 rfl rfl (v := .agg [eL (AV.int .i64) r, .sl 3 q0 k0 g3 0 u1.length, .int .i64 r1]) rfl (dP rfl rfl (o_move (v := eL AV.bool table) rfl (dP rfl rfl (o_move (v := .int .i64 level) rfl (dP rfl rfl (o_addG rfl rfl hg (dP rfl rfl (o_move (v := .int .i64 state) rfl ?_)))))))))
  refine dP rfl rfl (o_faP td25 rfl rfl (by rw [sz22]; decide) rfl (dL (E := ([(rg, 4)], [])) rfl rfl (by simp) (cfa (by simp [apartE]) (cfn)) (o_loadB1 (atL (k := 4) rfl) sz22 ag22 rfl rfl (v := eL (AV.int .i64) r) rfl (dP rfl rfl (o_move (v := .int .i64 level) rfl (dP rfl rfl (o_idxL td22 sz3 (by decide) (fun _ => rfl) rfl rfl hg1 ?_)))))))
  refine dP rfl rfl (o_loadI1 sz3 ag3 rfl rfl (v := .int .i64 (at' r level)) rfl (dP rfl rfl (o_shlG rfl rfl hg2 (dP rfl rfl (o_or rfl rfl ?_)))))
  refine dCE (vs := [.agg [eL (AV.int .i64) r, .sl 3 q0 k0 g3 0 u1.length, .int .i64 r1], eL AV.bool table, AV.int .i64 (level + 1), AV.int .i64 (bits .or .i64 state (1 * 2 ^ (Int.toNat (at' r level))))]) (V := fun gm => .tuple [.agg [eL (AV.int .i64) r3, .sl 3 q0 k0 (gm 0) 0 u2.length, .int .i64 r4], .int .i64 r5]) (rd := []) (wk := [(q0, k0)]) (wr := fun gm => [(q0, k0, .arr 3 (List.map eDNode u2), (gm 0))]) rfl (vl' vr (vl' vr (vl' vr (vl' vr (vn))))) rfl (cfo (by kernel_rfl) (cfo (by kernel_rfl) (cfn))) (by simp) (fun _ => rfl) (fun S' hA hB => ctrX (sx_c (ag hB 0 rfl (atX hne0 hdx 0 rfl)) (sx_n)) (ih (dk_c (ni_n) (dk_n)) hc (fun _ _ _ _ h0 he => by obtain ⟨rfl, rfl, rfl, rfl⟩ := he; exact ⟨fun i => [h0].getD i 0, rfl, sm_c (sx_n)⟩))) (fun gm => ?_)
  refine vdT.eqS (sa_c (sa_n) (setX hne0 hdx 0 rfl rfl)) ?_
  refine dP rfl rfl (o_move (v := .tuple [.agg [eL (AV.int .i64) r3, .sl 3 q0 k0 (gm 0) 0 u2.length, .int .i64 r4], .int .i64 r5]) rfl (dP rfl rfl (o_extract (v := .agg [eL (AV.int .i64) r3, .sl 3 q0 k0 (gm 0) 0 u2.length, .int .i64 r4]) rfl rfl rfl (dP rfl rfl (o_extract (v := .int .i64 r5) rfl rfl rfl ?_)))))
  refine dL (E := ([], [(rg, 4)])) rfl rfl (by simp) (cfo (by kernel_rfl) (cfo (by kernel_rfl) (cfo (by kernel_rfl) (cfn)))) (o_storeB (atL (k := 4) rfl) sz25 (by decide) rfl (w := .agg [eL (AV.int .i64) r3, .sl 3 q0 k0 (gm 0) 0 u2.length, .int .i64 r4]) rfl rfl rfl (v := .agg [eL (AV.int .i64) r3, .sl 3 q0 k0 (gm 0) 0 u2.length, .int .i64 r4]) rfl setL (dP rfl rfl (o_assign (v := .int .i64 r5) rfl (dN ?_))))
  refine qZ (qZ (rZ (mvZ (.int .i64 r2) rfl (mvZ (.int .i64 r5) rfl (wZ rg (o_eql rfl rfl (nZ ?_)))))))
  refine Vc.cond' rfl (fun hb2 => ?_) (fun hb2 => ?_)
  · replace h := h.1 hb2
    refine qZ (rZ (wZ rg (o_loadBA (atL (k := 4) rfl) sz25 (by decide) ag25 rfl rfl (v := .agg [eL (AV.int .i64) r3, .sl 3 q0 k0 (gm 0) 0 u2.length, .int .i64 r4]) rfl (mvZ (.int .i64 r2) rfl ?_))))
    refine wZ rg (o_storeB (atL (k := 8) rfl) sz25 (by decide) rfl (w := .agg [eL (AV.int .i64) r3, .sl 3 q0 k0 (gm 0) 0 u2.length, .int .i64 r4]) rfl rfl rfl (v := .agg [eL (AV.int .i64) r3, .sl 3 q0 k0 (gm 0) 0 u2.length, .int .i64 r4]) rfl setL (asZ (.int .i64 r2) rfl (nZ ?_)))
    refine Vc.ret' ?_
    refine res_cellA (atL (k := 8) rfl) sz25 (by decide) ag25 rfl rfl (v := .agg [eL (AV.int .i64) r3, .sl 3 q0 k0 (gm 0) 0 u2.length, .int .i64 r4]) rfl (res_tmp (v := .int .i64 r2) rfl (res_nil ?_))
    show Gives _ (.tuple [.agg [eL (AV.int .i64) r3, .sl 3 q0 k0 (gm 0) 0 u2.length, .int .i64 r4], .int .i64 r2]) _
    exact gives_out (hfr _ rfl) (VW.tupL (vl' vr (vl' vr (vn)))) (hQ _ _ _ _ _ h)
  replace h := h.2 hb2
  refine Vc.skip' ?_
  refine qZ (rZ (wZ rg (o_faP td25 rfl rfl (by rw [sz22]; decide) rfl (wZ rg (o_loadB1 (atL (k := 4) rfl) sz22 ag22 rfl rfl (v := eL (AV.int .i64) r3) rfl (mvZ (.int .i64 level) rfl (wZ rg (o_idxL td22 sz3 (by decide) (fun _ => rfl) rfl rfl h.1 ?_))))))))
  replace h := h.2
  refine wZ rg (o_loadI1 sz3 ag3 rfl rfl (v := .int .i64 (at' r3 level)) rfl (mvZ (.int .i64 r2) rfl (mvZ (.int .i64 r5) rfl (wZ rg (o_build td134 zav134 bok134 szs134 sz134 (ps := [(0, .int .i64 (at' r3 level)), (1, .int .i64 r2), (2, .int .i64 r5)]) rfl rfl (v := .agg [.int .i64 (at' r3 level), .int .i64 r2, .int .i64 r5]) rfl (wZ rg (o_alloc zav134 ok134 (kk := 3) rfl (fun g4 => ?_))))))))
  refine wZ rg (o_storeB (atL (k := 12) rfl) sz134 (by decide) rfl (w := .agg [.int .i64 (at' r3 level), .int .i64 r2, .int .i64 r5]) rfl rfl rfl (v := .agg [.int .i64 (at' r3 level), .int .i64 r2, .int .i64 r5]) rfl setL (nZ (qZ (qZ (rZ (asZ (.int .i64 0) rfl (nZ ?_)))))))
  refine Vc.blk ?_
  obtain ⟨I, μ, h0, hI⟩ := h
  refine Vc.loop' (σ := (Int)) (fun y => I y) (fun y => μ y) (fun y => envOf [(4, .ptr rg 4 g1 0 0), (8, .ptr rg 8 g2 0 0), (12, .ptr rg 12 g4 0 0), (13, .int .i64 y)]) (fun y => stL (stX S [(q0, k0, .arr 3 (List.map eDNode u2), (gm 0))]) rg [(4, .arr 3 [.agg [eL (AV.int .i64) r3, .sl 3 q0 k0 (gm 0) 0 u2.length, .int .i64 r4]], g1), (8, .arr 3 [.agg [.nil, .nil, .int .i64 0]], g2), (12, .arr 3 [.agg [.int .i64 (at' r3 level), .int .i64 r2, .int .i64 r5]], g4)]) 0 (canon (fc vr (fc vr (fc vr (fc vr (fn))))) (sc rfl (sc rfl (sc rfl (sn))))) h0 (fun i h => ?_)
  replace h := hI i h
  show Vc _ _ _ _ (envOf [(4, .ptr rg 4 g1 0 0), (8, .ptr rg 8 g2 0 0), (12, .ptr rg 12 g4 0 0), (13, .int .i64 i)]) (stL (stX S [(q0, k0, .arr 3 (List.map eDNode u2), (gm 0))]) rg [(4, .arr 3 [.agg [eL (AV.int .i64) r3, .sl 3 q0 k0 (gm 0) 0 u2.length, .int .i64 r4]], g1), (8, .arr 3 [.agg [.nil, .nil, .int .i64 0]], g2), (12, .arr 3 [.agg [.int .i64 (at' r3 level), .int .i64 r2, .int .i64 r5]], g4)])
  refine qZ (qZ (rZ (mvZ (.int .i64 i) rfl (wZ rg (o_faP td25 rfl rfl (by rw [sz23]; decide) rfl (wZ rg (o_loadB1 (atL (k := 4) rfl) sz23 ag23 rfl rfl (v := .sl 3 q0 k0 (gm 0) 0 u2.length) rfl (wZ rg (o_lenR td23 rfl (wZ rg (o_lss rfl rfl (nZ ?_))))))))))))
  refine Vc.cond' rfl (fun hb3 => ?_) (fun hb3 => ?_)
  · replace h := h.1 hb3
    refine Vc.skip' ?_
    refine qZ ?_
    refine Vc.blk ?_
    refine qZ ?_
    have hi := h.1
    replace h := h.2
    refine Vc.drawn' mixed rg (fun _ => jcr2) (by kernel_rfl) ?_
    refine dP rfl rfl (o_faP td25 rfl rfl (by rw [sz23]; decide) rfl (dL (E := ([(rg, 4)], [])) rfl rfl (by simp) (cfn) (o_loadB1 (atL (k := 4) rfl) sz23 ag23 rfl rfl (v := .sl 3 q0 k0 (gm 0) 0 u2.length) rfl (dP rfl rfl (o_move (v := .int .i64 i) rfl (dP rfl rfl (o_idxR0 td23 sz134 (by decide) rfl rfl hi ?_)))))))
    refine dL (E := ([(q0, k0)], [])) rfl rfl (by simp) (cfo (by kernel_rfl) (cfn)) (o_loadRA (atX hne0 hdx 0 rfl) sz134 (by decide) ag134 rfl (lt_of hi (by first | rfl | omega | (simp only [go_sem] <;> omega))) rfl (v := eDNode (at' u2 i)) rfl ?_)
    refine dL (E := ([(rg, 12)], [])) rfl rfl (by simp) (cfa (by simp [apartE]) (cfa (by simp [apartE]) (cfn))) (o_loadBA (atL (k := 12) rfl) sz134 (by decide) ag134 rfl rfl (v := .agg [.int .i64 (at' r3 level), .int .i64 r2, .int .i64 r5]) rfl (dP rfl rfl (o_eqlS ksh134 rfl rfl rfl rfl (dN ?_))))
    refine Vc.cond' rfl (fun hb4 => ?_) (fun hb4 => ?_)
    · replace h := h.1 hb4
      refine qZ (rZ (wZ rg (o_loadBA (atL (k := 4) rfl) sz25 (by decide) ag25 rfl rfl (v := .agg [eL (AV.int .i64) r3, .sl 3 q0 k0 (gm 0) 0 u2.length, .int .i64 r4]) rfl (mvZ (.int .i64 i) rfl (wZ rg (o_addG rfl rfl h.1 ?_))))))
      replace h := h.2
      refine wZ rg (o_storeB (atL (k := 8) rfl) sz25 (by decide) rfl (w := .agg [eL (AV.int .i64) r3, .sl 3 q0 k0 (gm 0) 0 u2.length, .int .i64 r4]) rfl rfl rfl (v := .agg [eL (AV.int .i64) r3, .sl 3 q0 k0 (gm 0) 0 u2.length, .int .i64 r4]) rfl setL (asZ (.int .i64 (2 + i)) rfl (nZ ?_)))
      refine Vc.ret' ?_
      refine res_cellA (atL (k := 8) rfl) sz25 (by decide) ag25 rfl rfl (v := .agg [eL (AV.int .i64) r3, .sl 3 q0 k0 (gm 0) 0 u2.length, .int .i64 r4]) rfl (res_tmp (v := .int .i64 (2 + i)) rfl (res_nil ?_))
      show Gives _ (.tuple [.agg [eL (AV.int .i64) r3, .sl 3 q0 k0 (gm 0) 0 u2.length, .int .i64 r4], .int .i64 (2 + i)]) _
      exact gives_out (hfr _ rfl) (VW.tupL (vl' vr (vl' vr (vn)))) (hQ _ _ _ _ _ h)
    replace h := h.2 hb4
    refine Vc.skip' ?_
    refine rZ ?_
    refine mvZ (.int .i64 i) rfl (wZ rg (o_addG rfl rfl h.1 ?_))
    replace h := h.2
    refine asZ (.int .i64 (i + 1)) rfl (nZ ?_)
    exact ⟨(i + 1), (canon (fc vr (fc vr (fc vr (fc vr (fn))))) (sc rfl (sc rfl (sc rfl (sn))))), h⟩
  replace h := h.2 hb3
  refine Vc.exit' (exB_self ?_)
  refine qZ (rZ (wZ rg (o_faP td25 rfl rfl (by rw [sz23]; decide) rfl (wZ rg (o_loadB1 (atL (k := 4) rfl) sz23 ag23 rfl rfl (v := .sl 3 q0 k0 (gm 0) 0 u2.length) rfl (wZ rg (o_loadBA (atL (k := 12) rfl) sz134 (by decide) ag134 rfl rfl (v := .agg [.int .i64 (at' r3 level), .int .i64 r2, .int .i64 r5]) rfl ?_)))))))
  refine wZ rg (o_bslice td23 ok134 zav134 (es := [.agg [.int .i64 (at' r3 level), .int .i64 r2, .int .i64 r5]]) rfl (kk := 3) rfl rfl rfl rfl rfl rfl (fun g5 => ?_))
  refine wZ rg (o_appR td23 bts134 ok134 zav134 (es := u2) (xs := [(⟨(at' r3 level), r2, r5⟩ : GDNode)]) (enc := eDNode) (atX hne0 hdx 0 rfl) (by first | rfl | omega | (simp only [go_sem] <;> omega)) (view_rowE (atL (k := 83) rfl) (by first | rfl | omega | (simp only [go_sem] <;> omega))) (kk := 3) rfl rfl (fun _ => rfl) (fun _ => rfl) h.1 rfl (fun _ => (setX hne0 hdx 0 rfl rfl)) (fun g6 => ?_))
  replace h := h.2
  refine wZ rg (o_faP td25 rfl rfl (by rw [sz23]; decide) rfl (wZ rg (o_storeB (atL (k := 4) rfl) sz23 (by decide) rfl (w := .sl 3 q0 k0 g6 0 ((u2 ++ [(⟨(at' r3 level), r2, r5⟩ : GDNode)]).length)) rfl rfl rfl (v := .agg [eL (AV.int .i64) r3, .sl 3 q0 k0 g6 0 ((u2 ++ [(⟨(at' r3 level), r2, r5⟩ : GDNode)]).length), .int .i64 r4]) rfl setL (nZ (qZ ?_)))))
  have hg3 := h.1
  replace h := h.2
  refine Vc.drawn' mixed rg (fun _ => jcr2) (by kernel_rfl) ?_
  refine dL (E := ([(rg, 4)], [])) rfl rfl (by simp) (cfn) (o_loadBA (atL (k := 4) rfl) sz25 (by decide) ag25 rfl rfl (v := .agg [eL (AV.int .i64) r3, .sl 3 q0 k0 g6 0 ((u2 ++ [(⟨(at' r3 level), r2, r5⟩ : GDNode)]).length), .int .i64 r4]) rfl (dP rfl rfl (o_faP td25 rfl rfl (by rw [sz23]; decide) rfl ?_)))
  refine dL (E := ([(rg, 4)], [])) rfl rfl (by simp) (cfa (by simp [apartE]) (cfn)) (o_loadB1 (atL (k := 4) rfl) sz23 ag23 rfl rfl (v := .sl 3 q0 k0 g6 0 ((u2 ++ [(⟨(at' r3 level), r2, r5⟩ : GDNode)]).length)) rfl (dP rfl rfl (o_lenR td23 rfl (dP rfl rfl (o_addG rfl rfl hg3 ?_)))))
  refine dL (E := ([], [(rg, 8)])) rfl rfl (by simp) (cfa (by simp [apartE]) (cfo (by kernel_rfl) (cfn))) (o_storeB (atL (k := 8) rfl) sz25 (by decide) rfl (w := .agg [eL (AV.int .i64) r3, .sl 3 q0 k0 g6 0 ((u2 ++ [(⟨(at' r3 level), r2, r5⟩ : GDNode)]).length), .int .i64 r4]) rfl rfl rfl (v := .agg [eL (AV.int .i64) r3, .sl 3 q0 k0 g6 0 ((u2 ++ [(⟨(at' r3 level), r2, r5⟩ : GDNode)]).length), .int .i64 r4]) rfl setL ?_)
  refine dP rfl rfl (o_assign (v := .int .i64 (1 + ((u2 ++ [(⟨(at' r3 level), r2, r5⟩ : GDNode)]).length : Int))) rfl (dN ?_))
  refine Vc.ret' ?_
  refine res_cellA (atL (k := 8) rfl) sz25 (by decide) ag25 rfl rfl (v := .agg [eL (AV.int .i64) r3, .sl 3 q0 k0 g6 0 ((u2 ++ [(⟨(at' r3 level), r2, r5⟩ : GDNode)]).length), .int .i64 r4]) rfl (res_tmp (v := .int .i64 (1 + ((u2 ++ [(⟨(at' r3 level), r2, r5⟩ : GDNode)]).length : Int))) rfl (res_nil ?_))
  show Gives _ (.tuple [.agg [eL (AV.int .i64) r3, .sl 3 q0 k0 g6 0 ((u2 ++ [(⟨(at' r3 level), r2, r5⟩ : GDNode)]).length), .int .i64 r4], .int .i64 (1 + ((u2 ++ [(⟨(at' r3 level), r2, r5⟩ : GDNode)]).length : Int))]) _
  exact gives_out (hfr _ rfl) (VW.tupL (vl' vr (vl' vr (vn)))) (hQ _ _ _ _ _ h)
theorem ref15_Of_ctr {table : List Bool} {o : List Int} {Q : GDiagram → Prop} {S : St} {R : AV → St → Prop} (h : ref15_Of_W table o Q) (hQ : ∀ r1, Q r1 → R (eDiagram r1) S) :
    Ctr Try.prog 130 [eL AV.bool table, eL (AV.int .i64) o] S R := by
  unfold ref15_Of_W at h
  refine enterT Try.func130 rfl Try.ntmps130 Try.results130 (by kernel_rfl) (fun rg hrg => ?_)
  refine qZ (rZ (wZ rg (o_alloc zav25 ok25 (kk := 3) rfl (fun g1 => (nZ (qZ (rZ (wZ rg (o_build td25 zav25 bok25 szs25 sz25 (ps := []) rfl rfl (v := .agg [.nil, .nil, .int .i64 0]) rfl (wZ rg (o_alloc zav25 ok25 (kk := 3) rfl (fun g2 => (wZ rg (o_storeB (atL (k := 5) rfl) sz25 (by decide) rfl (w := .agg [.nil, .nil, .int .i64 0]) rfl rfl rfl (v := .agg [.nil, .nil, .int .i64 0]) rfl setL (nZ ?_)))))))))))))))
  refine qZ (rZ (wZ rg (o_faP td25 rfl rfl (by rw [sz22]; decide) rfl (wZ rg (o_loadB1 (atL (k := 5) rfl) sz22 ag22 rfl rfl (v := .nil) rfl (mvZ (eL (AV.int .i64) o) rfl (wZ rg (o_appN td22 bts3 ok3 zav3 (xs := o) (enc := AV.int .i64) (rfl) (kk := 1) rfl rfl (fun _ => rfl) (fun _ => rfl) h.1 rfl (fun g3 => ?_)))))))))
  replace h := h.2
  refine wZ rg (o_faP td25 rfl rfl (by rw [sz22]; decide) rfl (wZ rg (o_storeB (atL (k := 5) rfl) sz22 (by decide) rfl (w := .sl 1 rg 10 g3 0 o.length) rfl rfl rfl (v := .agg [.sl 1 rg 10 g3 0 o.length, .nil, .int .i64 0]) rfl setL (nZ (qZ (rZ (wZ rg (o_loadBA (atL (k := 5) rfl) sz25 (by decide) ag25 rfl rfl (v := .agg [.sl 1 rg 10 g3 0 o.length, .nil, .int .i64 0]) rfl (mvZ (eL AV.bool table) rfl ?_)))))))))
  refine Wl.wk (canon_freezeB (k := 10) (xs := List.map (AV.int .i64) o) rfl (es := [(4, .ptr rg 4 g1 0 0), (5, .ptr rg 5 g2 0 0), (13, .agg [eL (AV.int .i64) o, .nil, .int .i64 0]), (14, eL AV.bool table)]) (fc vr (fc vr (fc (VW.aggL (vl' (frz_full rfl) (vl' vr (vl' vr (vn))))) (fc vr (fn))))) (m := [(4, .arr 3 [.agg [.nil, .nil, .int .i64 0]], g1), (5, .arr 3 [.agg [eL (AV.int .i64) o, .nil, .int .i64 0]], g2)]) (zc rfl (zb rfl (zl (frz_full rfl) (zl vr (zl vr (zln)))) (zn)))) ?_
  obtain ⟨_, h⟩ := h
  refine wZ rg (o_call (us := [.agg [eL (AV.int .i64) o, .nil, .int .i64 0], eL AV.bool table, AV.int .i64 0, AV.int .i64 0]) rfl (vl' vr (vl' vr (vl' vr (vl' vr (vn))))) (Ctr.matC 0 1 rg 4800000 3 rfl rfl (by decide) (fun g4 => ctrX ((sx_c (atL (k := 4800000) rfl) (sx_n)).trans setL.symm) (ref15_add__e_ctr (dk_c (ni_n) (dk_n)) h fun u r r1 r2 g5 h => ?_))))
  refine Wl.eqS (sy_c (sx_n) setL) ?_
  refine mvZ (.tuple [.agg [eL (AV.int .i64) r, .sl 3 rg 4800000 g5 0 u.length, .int .i64 r1], .int .i64 r2]) rfl (wZ rg (o_extract (v := .agg [eL (AV.int .i64) r, .sl 3 rg 4800000 g5 0 u.length, .int .i64 r1]) rfl rfl rfl (wZ rg (o_extract (v := .int .i64 r2) rfl rfl rfl ?_))))
  refine wZ rg (o_storeB (atL (k := 5) rfl) sz25 (by decide) rfl (w := .agg [eL (AV.int .i64) r, .sl 3 rg 4800000 g5 0 u.length, .int .i64 r1]) rfl rfl rfl (v := .agg [eL (AV.int .i64) r, .sl 3 rg 4800000 g5 0 u.length, .int .i64 r1]) rfl setL (wZ rg (o_faP td25 rfl rfl (by rw [sz3]; decide) rfl ?_)))
  refine wZ rg (o_storeB (atL (k := 5) rfl) sz3 (by decide) rfl (w := .int .i64 r2) rfl rfl rfl (v := .agg [eL (AV.int .i64) r, .sl 3 rg 4800000 g5 0 u.length, .int .i64 r2]) rfl setL (nZ (qZ (rZ (wZ rg (o_loadBA (atL (k := 5) rfl) sz25 (by decide) ag25 rfl rfl (v := .agg [eL (AV.int .i64) r, .sl 3 rg 4800000 g5 0 u.length, .int .i64 r2]) rfl ?_))))))
  refine wZ rg (o_storeB (atL (k := 4) rfl) sz25 (by decide) rfl (w := .agg [eL (AV.int .i64) r, .sl 3 rg 4800000 g5 0 u.length, .int .i64 r2]) rfl rfl rfl (v := .agg [eL (AV.int .i64) r, .sl 3 rg 4800000 g5 0 u.length, .int .i64 r2]) rfl setL (nZ ?_))
  refine Vc.ret' ?_
  refine res_cellA (atL (k := 4) rfl) sz25 (by decide) ag25 rfl rfl (v := .agg [eL (AV.int .i64) r, .sl 3 rg 4800000 g5 0 u.length, .int .i64 r2]) rfl (res_nil ?_)
  show Gives _ (.agg [eL (AV.int .i64) r, .sl 3 rg 4800000 g5 0 u.length, .int .i64 r2]) _
  refine gives_freeze (k := 4800000) (xs := List.map eDNode u) rfl (v' := .agg [eL (AV.int .i64) r, eL eDNode u, .int .i64 r2]) (VW.aggL (vl' vr (vl' (frz_full rfl) (vl' vr (vn))))) ?_
  exact gives_out hrg (VW.refl _) (hQ _ h)
end Go.Proofs.Ytllegjdggcmgaaa
/- Walks of functions. Conditions: none. -/
namespace Go.Proofs.Ytllegjdggcmgaaa
open Go.Gg
set_option maxRecDepth 100000
theorem ref16_Least_ctr {d : GDiagram} {Q : Int → Bool → Prop} {S : St} {R : AV → St → Prop} (h : ref16_Least_W d Q) (hQ : ∀ r1 r2, Q r1 r2 → R (.tuple [AV.int .i64 r1, AV.bool r2]) S) :
    Ctr Try.prog 41 [eDiagram d] S R := by
  unfold ref16_Least_W at h
  refine enterT Try.func41 rfl Try.ntmps41 Try.results41 (by kernel_rfl) (fun rg hrg => ?_)
  refine qZ (rZ (wZ rg (o_box (v := eDiagram d) rfl rfl (kk := 3) rfl (by decide) (fun g1 => (asZ (.int .i64 0) rfl (asZ (.bool false) rfl (nZ (qZ (rZ (wZ rg (o_loadBA (atL (k := 1) rfl) sz25 (by decide) ag25 rfl rfl (v := eDiagram d) rfl (wZ rg (o_call (us := [eDiagram d]) rfl (vl' vr (vn)) (ref15_Table_ctr h fun t1 h => (asZ (eL AV.bool t1) rfl (nZ (qZ (qZ (rZ (asZ (.int .i64 0) rfl ?_))))))))))))))))))))
  refine nZ ?_
  refine Vc.blk ?_
  obtain ⟨I, μ, h0, hI⟩ := h
  refine Vc.loop' (σ := (Int)) (fun y => I y) (fun y => μ y) (fun y => envOf [(4, eL AV.bool t1), (5, .int .i64 y)]) (fun y => stL S rg []) 0 (canon (fc vr (fc vr (fn))) (sn)) h0 (fun s h => ?_)
  replace h := hI s h
  show Vc _ _ _ _ (envOf [(4, eL AV.bool t1), (5, .int .i64 s)]) (stL S rg [])
  refine qZ (qZ (rZ (mvZ (.int .i64 s) rfl (mvZ (eL AV.bool t1) rfl (wZ rg (o_len td139 rfl (wZ rg (o_lss rfl rfl (nZ ?_)))))))))
  refine Vc.cond' rfl (fun hb => ?_) (fun hb => ?_)
  · replace h := h.1 hb
    refine Vc.skip' ?_
    refine qZ ?_
    refine Vc.blk ?_
    refine qZ (rZ (mvZ (eL AV.bool t1) rfl (mvZ (.int .i64 s) rfl (wZ rg (o_idxL td139 sz4 (by decide) (fun _ => rfl) rfl rfl h.1 ?_)))))
    replace h := h.2
    refine wZ rg (o_loadI1 sz4 ag4 rfl rfl (v := .bool (at' t1 s)) rfl (nZ ?_))
    refine Vc.cond' rfl (fun hb1 => ?_) (fun hb1 => ?_)
    · replace h := h.1 hb1
      refine qZ (rZ (mvZ (.int .i64 s) rfl (asZ (.int .i64 s) rfl (asZ (.bool true) rfl (nZ ?_)))))
      refine Vc.ret' ?_
      refine res_tmp (v := .int .i64 s) rfl (res_tmp (v := .bool true) rfl (res_nil ?_))
      show Gives _ (.tuple [.int .i64 s, .bool true]) _
      exact gives_out hrg (VW.tupL (vl' vr (vl' vr (vn)))) (hQ _ _ h)
    replace h := h.2 hb1
    refine Vc.skip' ?_
    refine rZ ?_
    refine mvZ (.int .i64 s) rfl (wZ rg (o_addG rfl rfl h.1 ?_))
    replace h := h.2
    refine asZ (.int .i64 (s + 1)) rfl (nZ ?_)
    exact ⟨(s + 1), (canon (fc vr (fc vr (fn))) (sn)), h⟩
  replace h := h.2 hb
  refine Vc.exit' (exB_self ?_)
  refine qZ (rZ (asZ (.int .i64 0) rfl (asZ (.bool false) rfl (nZ ?_))))
  refine Vc.ret' ?_
  refine res_tmp (v := .int .i64 0) rfl (res_tmp (v := .bool false) rfl (res_nil ?_))
  show Gives _ (.tuple [.int .i64 0, .bool false]) _
  exact gives_out hrg (VW.tupL (vl' vr (vl' vr (vn)))) (hQ _ _ h)
theorem ref16_Not_ctr {d : GDiagram} {Q : GDiagram → Prop} {S : St} {R : AV → St → Prop} (h : ref16_Not_W d Q) (hQ : ∀ r1, Q r1 → R (eDiagram r1) S) :
    Ctr Try.prog 43 [eDiagram d] S R := by
  unfold ref16_Not_W at h
  refine enterT Try.func43 rfl Try.ntmps43 Try.results43 (by kernel_rfl) (fun rg hrg => ?_)
  refine qZ (rZ (wZ rg (o_box (v := eDiagram d) rfl rfl (kk := 3) rfl (by decide) (fun g1 => (wZ rg (o_alloc zav25 ok25 (kk := 3) rfl (fun g2 => (nZ (qZ (rZ (wZ rg (o_loadBA (atL (k := 1) rfl) sz25 (by decide) ag25 rfl rfl (v := eDiagram d) rfl (wZ rg (o_call (us := [eDiagram d]) rfl (vl' vr (vn)) (ref15_Table_ctrO rg 6 h fun t1 g3 h => ?_)))))))))))))))
  refine Wl.eqS setL ?_
  refine asZ (.sl 1 rg 6 g3 0 t1.length) rfl (nZ (qZ (qZ (rZ (asZ (.int .i64 0) rfl (nZ ?_))))))
  refine Vc.blk ?_
  obtain ⟨I, μ, h0, hI⟩ := h
  refine Vc.loop' (σ := (Int × (List Bool))) (fun y => I y) (fun y => μ y) (fun y => envOf [(1, .ptr rg 1 g1 0 0), (2, .ptr rg 2 g2 0 0), (3, .sl 1 rg 6 g3 0 y.2.length), (4, .int .i64 y.1)]) (fun y => stL S rg [(1, .arr 3 [eDiagram d], g1), (2, .arr 3 [.agg [.nil, .nil, .int .i64 0]], g2), (6, .arr 1 (List.map AV.bool y.2), g3)]) (0, t1) (canon (fc vr (fc vr (fc vr (fc vr (fn))))) (sc rfl (sc rfl (sc rfl (sn))))) h0 (fun y h => ?_)
  obtain ⟨s, t2⟩ := y
  replace h := hI (s, t2) h
  show Vc _ _ _ _ (envOf [(1, .ptr rg 1 g1 0 0), (2, .ptr rg 2 g2 0 0), (3, .sl 1 rg 6 g3 0 t2.length), (4, .int .i64 s)]) (stL S rg [(1, .arr 3 [eDiagram d], g1), (2, .arr 3 [.agg [.nil, .nil, .int .i64 0]], g2), (6, .arr 1 (List.map AV.bool t2), g3)])
  refine qZ (qZ (rZ (mvZ (.int .i64 s) rfl (mvZ (.sl 1 rg 6 g3 0 t2.length) rfl (wZ rg (o_lenR td139 rfl (wZ rg (o_lss rfl rfl (nZ ?_)))))))))
  refine Vc.cond' rfl (fun hb => ?_) (fun hb => ?_)
  · replace h := h.1 hb
    refine Vc.skip' ?_
    refine qZ ?_
    refine Vc.blk ?_
    refine rZ ?_
    refine mvZ (.sl 1 rg 6 g3 0 t2.length) rfl (mvZ (.int .i64 s) rfl (mvZ (.sl 1 rg 6 g3 0 t2.length) rfl (mvZ (.int .i64 s) rfl (wZ rg (o_idxR0 td139 sz4 (by decide) rfl rfl h.1 ?_)))))
    have hi := h.1
    replace h := h.2
    refine wZ rg (o_loadR1 (atL (k := 6) rfl) sz4 ag4 rfl (lt_of hi (by first | rfl | omega | (simp only [go_sem] <;> omega))) rfl (v := .bool (at' t2 s)) rfl (wZ rg (o_not rfl (wZ rg (o_idxR0 td139 sz4 (by decide) rfl rfl h.1 ?_)))))
    have hi1 := h.1
    replace h := h.2
    refine wZ rg (o_storeR1 (atL (k := 6) rfl) sz4 (by decide) (x' := (!(at' t2 s))) (fun _ => rfl) rfl rfl (lt_of hi1 (by first | rfl | omega | (simp only [go_sem] <;> omega))) rfl rfl setL (nZ (rZ (mvZ (.int .i64 s) rfl (wZ rg (o_addG rfl rfl h.1 ?_))))))
    replace h := h.2
    refine asZ (.int .i64 (s + 1)) rfl (nZ ?_)
    exact ⟨((s + 1), (set' t2 s (!(at' t2 s)))), (canon (fc vr (fc vr (fc (VW.slen (by first | rfl | omega | (simp only [go_sem] <;> omega))) (fc vr (fn))))) (sc rfl (sc rfl (sc rfl (sn))))), h⟩
  replace h := h.2 hb
  refine Vc.exit' (exB_self ?_)
  refine qZ (rZ (mvZ (.sl 1 rg 6 g3 0 t2.length) rfl (wZ rg (o_faP td25 rfl rfl (by rw [sz22]; decide) rfl (wZ rg (o_loadB1 (atL (k := 1) rfl) sz22 ag22 rfl rfl (v := eL (AV.int .i64) d.Order) rfl ?_))))))
  refine Wl.wk (canon_freeze (k := 6) (xs := List.map AV.bool t2) rfl (es := [(2, .ptr rg 2 g2 0 0), (21, eL AV.bool t2), (23, eL (AV.int .i64) d.Order)]) (fc vr (fc (frz_full rfl) (fc vr (fn)))) (m := [(2, .arr 3 [.agg [.nil, .nil, .int .i64 0]], g2)]) (sc rfl (sn))) ?_
  refine wZ rg (o_call (us := [eL AV.bool t2, eL (AV.int .i64) d.Order]) rfl (vl' vr (vl' vr (vn))) (ref15_Of_ctr h fun r h => (wZ rg (o_storeB (atL (k := 2) rfl) sz25 (by decide) rfl (w := eDiagram r) rfl rfl rfl (v := eDiagram r) rfl setL (nZ ?_)))))
  refine Vc.ret' ?_
  refine res_cellA (atL (k := 2) rfl) sz25 (by decide) ag25 rfl rfl (v := eDiagram r) rfl (res_nil ?_)
  show Gives _ (eDiagram r) _
  exact gives_out hrg (VW.refl _) (hQ _ h)
theorem ref16_Count_ctr {d : GDiagram} {Q : Int → Prop} {S : St} {R : AV → St → Prop} (h : ref16_Count_W d Q) (hQ : ∀ r1, Q r1 → R (AV.int .i64 r1) S) :
    Ctr Try.prog 44 [eDiagram d] S R := by
  unfold ref16_Count_W at h
  refine enterT Try.func44 rfl Try.ntmps44 Try.results44 (by kernel_rfl) (fun rg hrg => ?_)
  refine qZ (rZ (wZ rg (o_box (v := eDiagram d) rfl rfl (kk := 3) rfl (by decide) (fun g1 => (asZ (.int .i64 0) rfl (nZ (qZ (rZ (wZ rg (o_loadBA (atL (k := 1) rfl) sz25 (by decide) ag25 rfl rfl (v := eDiagram d) rfl (wZ rg (o_call (us := [eDiagram d]) rfl (vl' vr (vn)) (ref15_Table_ctr h fun t1 h => (asZ (eL AV.bool t1) rfl (asZ (.int .i64 0) rfl (nZ (qZ (qZ (rZ (asZ (.int .i64 0) rfl ?_))))))))))))))))))))
  refine nZ ?_
  refine Vc.blk ?_
  obtain ⟨I, μ, h0, hI⟩ := h
  refine Vc.loop' (σ := (Int × Int)) (fun y => I y) (fun y => μ y) (fun y => envOf [(3, eL AV.bool t1), (4, .int .i64 y.1), (5, .int .i64 y.2)]) (fun y => stL S rg []) (0, 0) (canon (fc vr (fc vr (fc vr (fn)))) (sn)) h0 (fun y h => ?_)
  obtain ⟨n, s⟩ := y
  replace h := hI (n, s) h
  show Vc _ _ _ _ (envOf [(3, eL AV.bool t1), (4, .int .i64 n), (5, .int .i64 s)]) (stL S rg [])
  refine qZ (qZ (rZ (mvZ (.int .i64 s) rfl (mvZ (eL AV.bool t1) rfl (wZ rg (o_len td139 rfl (wZ rg (o_lss rfl rfl (nZ ?_)))))))))
  refine Vc.cond' rfl (fun hb => ?_) (fun hb => ?_)
  · replace h := h.1 hb
    refine Vc.skip' ?_
    refine qZ ?_
    refine Vc.blk ?_
    refine qZ (rZ (mvZ (eL AV.bool t1) rfl (mvZ (.int .i64 s) rfl (wZ rg (o_idxL td139 sz4 (by decide) (fun _ => rfl) rfl rfl h.1 ?_)))))
    replace h := h.2
    refine wZ rg (o_loadI1 sz4 ag4 rfl rfl (v := .bool (at' t1 s)) rfl (nZ ?_))
    refine Vc.cond' rfl (fun hb1 => ?_) (fun hb1 => ?_)
    · replace h := h.1 hb1
      refine rZ ?_
      refine mvZ (.int .i64 n) rfl (wZ rg (o_addG rfl rfl h.1 ?_))
      replace h := h.2
      refine asZ (.int .i64 (n + 1)) rfl (nZ (rZ (mvZ (.int .i64 s) rfl (wZ rg (o_addG rfl rfl h.1 ?_)))))
      replace h := h.2
      refine asZ (.int .i64 (s + 1)) rfl (nZ ?_)
      exact ⟨((n + 1), (s + 1)), (canon (fc vr (fc vr (fc vr (fn)))) (sn)), h⟩
    replace h := h.2 hb1
    refine Vc.skip' ?_
    refine rZ ?_
    refine mvZ (.int .i64 s) rfl (wZ rg (o_addG rfl rfl h.1 ?_))
    replace h := h.2
    refine asZ (.int .i64 (s + 1)) rfl (nZ ?_)
    exact ⟨(n, (s + 1)), (canon (fc vr (fc vr (fc vr (fn)))) (sn)), h⟩
  replace h := h.2 hb
  refine Vc.exit' (exB_self ?_)
  refine qZ (rZ (mvZ (.int .i64 n) rfl (asZ (.int .i64 n) rfl (nZ ?_))))
  refine Vc.ret' ?_
  refine res_tmp (v := .int .i64 n) rfl (res_nil ?_)
  show Gives _ (.int .i64 n) _
  exact gives_out hrg (VW.refl _) (hQ _ h)
end Go.Proofs.Ytllegjdggcmgaaa
/- Walks of functions. Conditions: none. -/
namespace Go.Proofs.Ytllegjdggcmgaaa
open Go.Gg
set_option maxRecDepth 100000
theorem decision_Table__Xor__e_ctr {a : Int} {b : Int} {order : List Int} {place : List Int} {nodes : List GDNode} {unique : GMap Int} {memo : GMap Int} {q0 k0 g0 q1 k1 g1 q2 k2 g2 q3 k3 g3 q4 k4 g4 q5 k5 g5 : Nat} (hdk : DK [(q0, k0), (q3, k3), (q4, k4), (q5, k5), (q1, k1), (q2, k2)]) {Q : List GDNode → GMap Int → GMap Int → Int → Prop} {S : St} {R : AV → St → Prop} (h : decision_Table__Xor__e_W a b order place nodes unique memo Q) (hQ : ∀ r1 r2 r3 r4, ∀ h3, Q r1 r2 r3 r4 → R (AV.int .i64 r4) (stX S [(q0, k0, .arr 5 [.agg [.sl 1 q1 k1 g1 0 order.length, .sl 1 q2 k2 g2 0 place.length, .sl 3 q3 k3 h3 0 r1.length, .map q4 k4 g4, .map q5 k5 g5]], g0), (q3, k3, .arr 3 (List.map eDNode r1), h3), (q4, k4, mapE (AV.int .i64) (.many [.i64, .i64, .i64]) r2, g4), (q5, k5, mapE (AV.int .i64) (.many [.i64, .i64, .i64]) r3, g5), (q1, k1, .arr 1 (List.map (AV.int .i64) order), g1), (q2, k2, .arr 1 (List.map (AV.int .i64) place), g2)])) :
    Ctr Try.prog 134 [.ptr q0 k0 g0 0 0, AV.int .i64 a, AV.int .i64 b] (stX S [(q0, k0, .arr 5 [.agg [.sl 1 q1 k1 g1 0 order.length, .sl 1 q2 k2 g2 0 place.length, .sl 3 q3 k3 g3 0 nodes.length, .map q4 k4 g4, .map q5 k5 g5]], g0), (q3, k3, .arr 3 (List.map eDNode nodes), g3), (q4, k4, mapE (AV.int .i64) (.many [.i64, .i64, .i64]) unique, g4), (q5, k5, mapE (AV.int .i64) (.many [.i64, .i64, .i64]) memo, g5), (q1, k1, .arr 1 (List.map (AV.int .i64) order), g1), (q2, k2, .arr 1 (List.map (AV.int .i64) place), g2)]) R := by
  unfold decision_Table__Xor__e_W at h
  refine enterT Try.func134 rfl Try.ntmps134 Try.results134 (by kernel_rfl) (fun rg hrg => ?_)
  have hdx : DX [(q0, k0, .arr 5 [.agg [.sl 1 q1 k1 g1 0 order.length, .sl 1 q2 k2 g2 0 place.length, .sl 3 q3 k3 g3 0 nodes.length, .map q4 k4 g4, .map q5 k5 g5]], g0), (q3, k3, .arr 3 (List.map eDNode nodes), g3), (q4, k4, mapE (AV.int .i64) (.many [.i64, .i64, .i64]) unique, g4), (q5, k5, mapE (AV.int .i64) (.many [.i64, .i64, .i64]) memo, g5), (q1, k1, .arr 1 (List.map (AV.int .i64) order), g1), (q2, k2, .arr 1 (List.map (AV.int .i64) place), g2)] := hdk
  have hfr := fun X' e => fresh_set (S := S) (rg := rg) (X := [(q0, k0, .arr 5 [.agg [.sl 1 q1 k1 g1 0 order.length, .sl 1 q2 k2 g2 0 place.length, .sl 3 q3 k3 g3 0 nodes.length, .map q4 k4 g4, .map q5 k5 g5]], g0), (q3, k3, .arr 3 (List.map eDNode nodes), g3), (q4, k4, mapE (AV.int .i64) (.many [.i64, .i64, .i64]) unique, g4), (q5, k5, mapE (AV.int .i64) (.many [.i64, .i64, .i64]) memo, g5), (q1, k1, .arr 1 (List.map (AV.int .i64) order), g1), (q2, k2, .arr 1 (List.map (AV.int .i64) place), g2)]) (X' := X') e hrg
  have hne0 := fresh_ne hdx hrg 0 rfl
  have hne3 := fresh_ne hdx hrg 1 rfl
  have hne4 := fresh_ne hdx hrg 2 rfl
  have hne5 := fresh_ne hdx hrg 3 rfl
  have hne1 := fresh_ne hdx hrg 4 rfl
  have hne2 := fresh_ne hdx hrg 5 rfl
  refine qZ (rZ (asZ (.int .i64 0) rfl (nZ (qZ (rZ (mvZ (.ptr q0 k0 g0 0 0) rfl (mvZ (.int .i64 a) rfl (mvZ (.ptr q0 k0 g0 0 0) rfl (mvZ (.int .i64 b) rfl ?_)))))))))
  refine wZ rg (o_call (us := [.ptr q0 k0 g0 0 0, AV.int .i64 b]) rfl (vl' vr (vl' vr (vn))) (ctrX (sx_c (atX hne0 hdx 0 rfl) (sx_c (atX hne3 hdx 1 rfl) (sx_c (atX hne4 hdx 2 rfl) (sx_c (atX hne5 hdx 3 rfl) (sx_c (atX hne1 hdx 4 rfl) (sx_c (atX hne2 hdx 5 rfl) (sx_n))))))) (decision_Table__Not__e_ctr (dk_c (ni_c (dk_at 0 1 hdk rfl rfl rfl) (ni_c (dk_at 0 2 hdk rfl rfl rfl) (ni_c (dk_at 0 3 hdk rfl rfl rfl) (ni_c (dk_at 0 4 hdk rfl rfl rfl) (ni_c (dk_at 0 5 hdk rfl rfl rfl) (ni_n)))))) (dk_c (ni_c (dk_at 1 2 hdk rfl rfl rfl) (ni_c (dk_at 1 3 hdk rfl rfl rfl) (ni_c (dk_at 1 4 hdk rfl rfl rfl) (ni_c (dk_at 1 5 hdk rfl rfl rfl) (ni_n))))) (dk_c (ni_c (dk_at 2 3 hdk rfl rfl rfl) (ni_c (dk_at 2 4 hdk rfl rfl rfl) (ni_c (dk_at 2 5 hdk rfl rfl rfl) (ni_n)))) (dk_c (ni_c (dk_at 3 4 hdk rfl rfl rfl) (ni_c (dk_at 3 5 hdk rfl rfl rfl) (ni_n))) (dk_c (ni_c (dk_at 4 5 hdk rfl rfl rfl) (ni_n)) (dk_c (ni_n) (dk_n))))))) h fun u u1 u2 r g6 h => ?_)))
  refine Wl.eqS (sy_c (sy_c (sy_c (sy_c (sx_c (atX hne1 hdx 4 rfl) (sx_c (atX hne2 hdx 5 rfl) (sx_n))) (setX hne5 hdx 3 rfl rfl)) (setX hne4 hdx 2 rfl rfl)) (setX hne3 hdx 1 rfl rfl)) (setX hne0 hdx 0 rfl rfl)) ?_
  refine mvZ (.int .i64 b) rfl ?_
  obtain ⟨_, h⟩ := h
  refine wZ rg (o_call (us := [.ptr q0 k0 g0 0 0, AV.int .i64 a, AV.int .i64 r, AV.int .i64 b]) rfl (vl' vr (vl' vr (vl' vr (vl' vr (vn))))) (ctrX (sx_c (atX hne0 hdx 0 rfl) (sx_c (atX hne3 hdx 1 rfl) (sx_c (atX hne4 hdx 2 rfl) (sx_c (atX hne5 hdx 3 rfl) (sx_c (atX hne1 hdx 4 rfl) (sx_c (atX hne2 hdx 5 rfl) (sx_n))))))) (decision_Table__Choose__e_ctr (dk_c (ni_c (dk_at 0 1 hdk rfl rfl rfl) (ni_c (dk_at 0 2 hdk rfl rfl rfl) (ni_c (dk_at 0 3 hdk rfl rfl rfl) (ni_c (dk_at 0 4 hdk rfl rfl rfl) (ni_c (dk_at 0 5 hdk rfl rfl rfl) (ni_n)))))) (dk_c (ni_c (dk_at 1 2 hdk rfl rfl rfl) (ni_c (dk_at 1 3 hdk rfl rfl rfl) (ni_c (dk_at 1 4 hdk rfl rfl rfl) (ni_c (dk_at 1 5 hdk rfl rfl rfl) (ni_n))))) (dk_c (ni_c (dk_at 2 3 hdk rfl rfl rfl) (ni_c (dk_at 2 4 hdk rfl rfl rfl) (ni_c (dk_at 2 5 hdk rfl rfl rfl) (ni_n)))) (dk_c (ni_c (dk_at 3 4 hdk rfl rfl rfl) (ni_c (dk_at 3 5 hdk rfl rfl rfl) (ni_n))) (dk_c (ni_c (dk_at 4 5 hdk rfl rfl rfl) (ni_n)) (dk_c (ni_n) (dk_n))))))) h fun u3 u4 u5 r1 g7 h => ?_)))
  refine Wl.eqS (sy_c (sy_c (sy_c (sy_c (sx_c (atX hne1 hdx 4 rfl) (sx_c (atX hne2 hdx 5 rfl) (sx_n))) (setX hne5 hdx 3 rfl rfl)) (setX hne4 hdx 2 rfl rfl)) (setX hne3 hdx 1 rfl rfl)) (setX hne0 hdx 0 rfl rfl)) ?_
  refine asZ (.int .i64 r1) rfl (nZ ?_)
  refine Vc.ret' ?_
  refine res_tmp (v := .int .i64 r1) rfl (res_nil ?_)
  show Gives _ (.int .i64 r1) _
  exact gives_out (hfr _ rfl) (VW.refl _) (hQ _ _ _ _ _ h)
end Go.Proofs.Ytllegjdggcmgaaa
/- Walks of functions. Conditions: none. -/
namespace Go.Proofs.Ytllegjdggcmgaaa
open Go.Gg
set_option maxRecDepth 100000
theorem algebra_both__decision_Table__Xor_ctr {a : GDiagram} {b : GDiagram} {Q : GDiagram → Option Int → Prop} {S : St} {R : AV → St → Prop} (h : algebra_both__decision_Table__Xor_W a b Q) (hQ : ∀ r1 r2, Q r1 r2 → R (.tuple [eDiagram r1, eErr 83 r2]) S) :
    Ctr Try.prog 131 [eDiagram a, eDiagram b, .fn (.func 134) [] []] S R := by
  unfold algebra_both__decision_Table__Xor_W at h
  refine enterT Try.func131 rfl Try.ntmps131 Try.results131 (by kernel_rfl) (fun rg hrg => ?_)
  refine qZ (rZ (wZ rg (o_box (v := eDiagram a) rfl rfl (kk := 3) rfl (by decide) (fun g1 => (wZ rg (o_box (v := eDiagram b) rfl rfl (kk := 3) rfl (by decide) (fun g2 => (wZ rg (o_alloc zav25 ok25 (kk := 3) rfl (fun g3 => (asZ .niface rfl (nZ (qZ (rZ (wZ rg (o_loadBA (atL (k := 3) rfl) sz25 (by decide) ag25 rfl rfl (v := eDiagram a) rfl ?_))))))))))))))))
  refine wZ rg (o_loadBA (atL (k := 4) rfl) sz25 (by decide) ag25 rfl rfl (v := eDiagram b) rfl (wZ rg (o_bslice td142 ok25 zav25 (es := [eDiagram a, eDiagram b]) rfl (kk := 3) rfl rfl rfl rfl rfl rfl (fun g4 => ?_))))
  refine Wl.wk (canon_freeze (k := 14) (xs := List.map eDiagram [a, b]) rfl (es := [(2, .fn (.func 134) [] []), (6, .ptr rg 6 g3 0 0), (14, eL eDiagram [a, b])]) (fc vr (fc vr (fc (frz_full rfl) (fn)))) (m := [(6, .arr 3 [.agg [.nil, .nil, .int .i64 0]], g3)]) (sc rfl (sn))) ?_
  refine wZ rg (o_call (us := [eL eDiagram [a, b]]) rfl (vl' vr (vn)) (algebra_open_ctr rg 1600000 1600001 1600002 1600003 1600004 1600005 h (fun r r1 h => ?_) (fun order place nodes unique memo r r1 g5 g6 g7 g8 g9 g10 h => ?_)))
  · replace h := h.1 rfl
    refine mvZ (.tuple [.nilp, eL (AV.int .i64) r, eErr 83 r1]) rfl (wZ rg (o_extract (v := .nilp) rfl rfl rfl (wZ rg (o_extract (v := eL (AV.int .i64) r) rfl rfl rfl (wZ rg (o_extract (v := eErr 83 r1) rfl rfl rfl (asZ .nilp rfl (asZ (eL (AV.int .i64) r) rfl (asZ (eErr 83 r1) rfl (nZ (qZ (qZ (rZ (mvZ (eErr 83 r1) rfl (wZ rg (o_isnon td29 (E := 83) rfl rfl rfl (nZ ?_)))))))))))))))))
    refine Vc.cond' rfl (fun hb1 => ?_) (fun hb1 => ?_)
    · replace h := h.1 hb1
      refine qZ (rZ (wZ rg (o_build td25 zav25 bok25 szs25 sz25 (ps := []) rfl rfl (v := .agg [.nil, .nil, .int .i64 0]) rfl (mvZ (eErr 83 r1) rfl (wZ rg (o_storeB (atL (k := 6) rfl) sz25 (by decide) rfl (w := .agg [.nil, .nil, .int .i64 0]) rfl rfl rfl (v := .agg [.nil, .nil, .int .i64 0]) rfl setL (asZ (eErr 83 r1) rfl (nZ ?_))))))))
      refine Vc.ret' ?_
      refine res_cellA (atL (k := 6) rfl) sz25 (by decide) ag25 rfl rfl (v := .agg [.nil, .nil, .int .i64 0]) rfl (res_tmp (v := eErr 83 r1) rfl (res_nil ?_))
      show Gives _ (.tuple [.agg [.nil, .nil, .int .i64 0], eErr 83 r1]) _
      exact gives_out hrg (VW.tupL (vl' (VW.aggL (vl' (VW.nilL) (vl' (VW.nilL) (vl' vr (vn))))) (vl' vr (vn)))) (hQ _ _ h)
    replace h := h.2 hb1
    refine Vc.skip' ?_
    refine qZ ?_
    exact h.elim
  replace h := h.2 (order, place, nodes, unique, memo) rfl
  refine Wl.eqS (sy_c (sy_c (sy_c (sy_c (sy_c (sy_c (sx_n) setL) setL) setL) setL) setL) setL) ?_
  refine mvZ (.tuple [.ptr rg 1600000 g5 0 0, eL (AV.int .i64) r, eErr 83 r1]) rfl (wZ rg (o_extract (v := .ptr rg 1600000 g5 0 0) rfl rfl rfl (wZ rg (o_extract (v := eL (AV.int .i64) r) rfl rfl rfl (wZ rg (o_extract (v := eErr 83 r1) rfl rfl rfl (asZ (.ptr rg 1600000 g5 0 0) rfl (asZ (eL (AV.int .i64) r) rfl (asZ (eErr 83 r1) rfl (nZ (qZ (qZ (rZ (mvZ (eErr 83 r1) rfl ?_))))))))))))))
  refine wZ rg (o_isnon td29 (E := 83) rfl rfl rfl (nZ ?_))
  refine Vc.cond' rfl (fun hb => ?_) (fun hb => ?_)
  · replace h := h.1 hb
    refine qZ (rZ (wZ rg (o_build td25 zav25 bok25 szs25 sz25 (ps := []) rfl rfl (v := .agg [.nil, .nil, .int .i64 0]) rfl (mvZ (eErr 83 r1) rfl (wZ rg (o_storeB (atL (k := 6) rfl) sz25 (by decide) rfl (w := .agg [.nil, .nil, .int .i64 0]) rfl rfl rfl (v := .agg [.nil, .nil, .int .i64 0]) rfl setL (asZ (eErr 83 r1) rfl (nZ ?_))))))))
    refine Vc.ret' ?_
    refine res_cellA (atL (k := 6) rfl) sz25 (by decide) ag25 rfl rfl (v := .agg [.nil, .nil, .int .i64 0]) rfl (res_tmp (v := eErr 83 r1) rfl (res_nil ?_))
    show Gives _ (.tuple [.agg [.nil, .nil, .int .i64 0], eErr 83 r1]) _
    exact gives_out hrg (VW.tupL (vl' (VW.aggL (vl' (VW.nilL) (vl' (VW.nilL) (vl' vr (vn))))) (vl' vr (vn)))) (hQ _ _ h)
  replace h := h.2 hb
  refine Vc.skip' ?_
  refine qZ ?_
  have hg := h.1
  replace h := h.2
  have hg1 := h.1
  replace h := h.2
  obtain ⟨u, u1, u2, r2, hc, h⟩ := h
  obtain ⟨r3, r4, hc1, h⟩ := h
  refine Vc.drawn' mixed rg (usOf [(9, wc (fun _ => .int .i64 r2) [(rg, 1600001), (rg, 1600002)] [(rg, 1600000), (rg, 1600003), (rg, 1600004), (rg, 1600005)] (fun gm => [(rg, 1600000, .arr 5 [.agg [.sl 1 rg 1600001 g6 0 order.length, .sl 1 rg 1600002 g7 0 place.length, .sl 3 rg 1600003 (gm 0) 0 u.length, .map rg 1600004 g9, .map rg 1600005 g10]], g5), (rg, 1600003, .arr 3 (List.map eDNode u), (gm 0)), (rg, 1600004, mapE (AV.int .i64) (.many [.i64, .i64, .i64]) u1, g9), (rg, 1600005, mapE (AV.int .i64) (.many [.i64, .i64, .i64]) u2, g10)])), (10, wc (fun _ => .tuple [eDiagram r3, eErr 83 r4]) [(rg, 1600000), (rg, 1600001), (rg, 1600002), (rg, 1600003), (rg, 1600004), (rg, 1600005)] [] (fun _ => []))]) (by kernel_rfl) ?_
  refine dP rfl rfl (o_move (v := .ptr rg 1600000 g5 0 0) rfl (dP rfl rfl (o_move (v := .fn (.func 134) [] []) rfl (dP rfl rfl (o_move (v := .ptr rg 1600000 g5 0 0) rfl (dP rfl rfl (o_move (v := eL (AV.int .i64) r) rfl (dP rfl rfl (o_idxL td22 sz3 (by decide) (fun _ => rfl) rfl rfl hg (dP rfl rfl (o_loadI1 sz3 ag3 rfl rfl (v := .int .i64 (at' r 0)) rfl ?_)))))))))))
  refine dP rfl rfl (o_move (v := eL (AV.int .i64) r) rfl (dP rfl rfl (o_idxL td22 sz3 (by decide) (fun _ => rfl) rfl rfl hg1 (dP rfl rfl (o_loadI1 sz3 ag3 rfl rfl (v := .int .i64 (at' r 1)) rfl ?_)))))
  refine dCE (vs := [.ptr rg 1600000 g5 0 0, AV.int .i64 (at' r 0), AV.int .i64 (at' r 1)]) (V := fun _ => .int .i64 r2) (rd := [(rg, 1600001), (rg, 1600002)]) (wk := [(rg, 1600000), (rg, 1600003), (rg, 1600004), (rg, 1600005)]) (wr := fun gm => [(rg, 1600000, .arr 5 [.agg [.sl 1 rg 1600001 g6 0 order.length, .sl 1 rg 1600002 g7 0 place.length, .sl 3 rg 1600003 (gm 0) 0 u.length, .map rg 1600004 g9, .map rg 1600005 g10]], g5), (rg, 1600003, .arr 3 (List.map eDNode u), (gm 0)), (rg, 1600004, mapE (AV.int .i64) (.many [.i64, .i64, .i64]) u1, g9), (rg, 1600005, mapE (AV.int .i64) (.many [.i64, .i64, .i64]) u2, g10)]) rfl (vl' vr (vl' vr (vl' vr (vn)))) rfl (cfn) (by simp) (fun _ => rfl) (fun S' hA hB => ctrX (sx_c (ag hB 0 rfl (atL (k := 1600000) rfl)) (sx_c (ag hB 1 rfl (atL (k := 1600003) rfl)) (sx_c (ag hB 2 rfl (atL (k := 1600004) rfl)) (sx_c (ag hB 3 rfl (atL (k := 1600005) rfl)) (sx_c (ag hA 0 rfl (atL (k := 1600001) rfl)) (sx_c (ag hA 1 rfl (atL (k := 1600002) rfl)) (sx_n))))))) (decision_Table__Xor__e_ctr (dk_c (ni_c (ni_o rfl) (ni_c (ni_o rfl) (ni_c (ni_o rfl) (ni_c (ni_o rfl) (ni_c (ni_o rfl) (ni_n)))))) (dk_c (ni_c (ni_o rfl) (ni_c (ni_o rfl) (ni_c (ni_o rfl) (ni_c (ni_o rfl) (ni_n))))) (dk_c (ni_c (ni_o rfl) (ni_c (ni_o rfl) (ni_c (ni_o rfl) (ni_n)))) (dk_c (ni_c (ni_o rfl) (ni_c (ni_o rfl) (ni_n))) (dk_c (ni_c (ni_o rfl) (ni_n)) (dk_c (ni_n) (dk_n))))))) hc (fun _ _ _ _ h3 he => by obtain ⟨rfl, rfl, rfl, rfl⟩ := he; exact ⟨fun i => [h3].getD i 0, rfl, sm_c (sm_c (sm_c (sm_c (sx_c (ag hA 0 rfl (atL (k := 1600001) rfl)) (sx_c (ag hA 1 rfl (atL (k := 1600002) rfl)) (sx_n))))))⟩))) (fun gm => ?_)
  refine vdT.eqS (sa_c (sa_c (sa_c (sa_c (sa_n) setL) setL) setL) setL) ?_
  refine dCE (vs := [.ptr rg 1600000 g5 0 0, AV.int .i64 r2]) (V := fun _ => .tuple [eDiagram r3, eErr 83 r4]) (rd := [(rg, 1600000), (rg, 1600001), (rg, 1600002), (rg, 1600003), (rg, 1600004), (rg, 1600005)]) (wk := []) (wr := fun _ => []) rfl (vl' vr (vl' vr (vn))) rfl (cfo (by kernel_rfl) (cfn)) (by simp) (fun _ => rfl) (fun S' hA hB => ctrX (sx_c (ag hA 0 rfl (atL (k := 1600000) rfl)) (sx_c (ag hA 1 rfl (atL (k := 1600001) rfl)) (sx_c (ag hA 2 rfl (atL (k := 1600002) rfl)) (sx_c (ag hA 3 rfl (atL (k := 1600003) rfl)) (sx_c (ag hA 4 rfl (atL (k := 1600004) rfl)) (sx_c (ag hA 5 rfl (atL (k := 1600005) rfl)) (sx_n))))))) (algebra_result__e_ctr (dk_c (ni_c (ni_o rfl) (ni_c (ni_o rfl) (ni_c (ni_o rfl) (ni_c (ni_o rfl) (ni_c (ni_o rfl) (ni_n)))))) (dk_c (ni_c (ni_o rfl) (ni_c (ni_o rfl) (ni_c (ni_o rfl) (ni_c (ni_o rfl) (ni_n))))) (dk_c (ni_c (ni_o rfl) (ni_c (ni_o rfl) (ni_c (ni_o rfl) (ni_n)))) (dk_c (ni_c (ni_o rfl) (ni_c (ni_o rfl) (ni_n))) (dk_c (ni_c (ni_o rfl) (ni_n)) (dk_c (ni_n) (dk_n))))))) hc1 (fun _ _ he => by obtain ⟨rfl, rfl⟩ := he; exact ⟨fun i => ([] : List Nat).getD i 0, rfl, sx_c (ag hA 0 rfl (atL (k := 1600000) rfl)) (sx_c (ag hA 1 rfl (atL (k := 1600001) rfl)) (sx_c (ag hA 2 rfl (atL (k := 1600002) rfl)) (sx_c (ag hA 3 rfl (atL (k := 1600003) rfl)) (sx_c (ag hA 4 rfl (atL (k := 1600004) rfl)) (sx_c (ag hA 5 rfl (atL (k := 1600005) rfl)) (sx_n))))))⟩))) (fun _ => ?_)
  refine vdT.eqS (sa_n) ?_
  refine dP rfl rfl (o_extract (v := eDiagram r3) rfl rfl rfl (dP rfl rfl (o_extract (v := eErr 83 r4) rfl rfl rfl (dL (E := ([], [(rg, 6)])) rfl rfl (by simp) (cfo (by kernel_rfl) (cfo (by kernel_rfl) (cfn))) (o_storeB (atL (k := 6) rfl) sz25 (by decide) rfl (w := eDiagram r3) rfl rfl rfl (v := eDiagram r3) rfl setL (dP rfl rfl (o_assign (v := eErr 83 r4) rfl (dN ?_))))))))
  refine Vc.ret' ?_
  refine res_cellA (atL (k := 6) rfl) sz25 (by decide) ag25 rfl rfl (v := eDiagram r3) rfl (res_tmp (v := eErr 83 r4) rfl (res_nil ?_))
  show Gives _ (.tuple [eDiagram r3, eErr 83 r4]) _
  exact gives_out hrg (VW.tupL (vl' vr (vl' vr (vn)))) (hQ _ _ h)
theorem algebra_Xor_ctr {a : GDiagram} {b : GDiagram} {Q : GDiagram → Option Int → Prop} {S : St} {R : AV → St → Prop} (h : algebra_Xor_W a b Q) (hQ : ∀ r1 r2, Q r1 r2 → R (.tuple [eDiagram r1, eErr 83 r2]) S) :
    Ctr Try.prog 48 [eDiagram a, eDiagram b] S R := by
  unfold algebra_Xor_W at h
  refine enterT Try.func48 rfl Try.ntmps48 Try.results48 (by kernel_rfl) (fun rg hrg => ?_)
  refine qZ (rZ (wZ rg (o_box (v := eDiagram a) rfl rfl (kk := 3) rfl (by decide) (fun g1 => (wZ rg (o_box (v := eDiagram b) rfl rfl (kk := 3) rfl (by decide) (fun g2 => (wZ rg (o_alloc zav25 ok25 (kk := 3) rfl (fun g3 => (asZ .niface rfl (nZ (qZ (rZ (wZ rg (o_loadBA (atL (k := 2) rfl) sz25 (by decide) ag25 rfl rfl (v := eDiagram a) rfl ?_))))))))))))))))
  refine wZ rg (o_loadBA (atL (k := 3) rfl) sz25 (by decide) ag25 rfl rfl (v := eDiagram b) rfl (wZ rg (o_call (us := [eDiagram a, eDiagram b, .fn (.func 134) [] []]) rfl (vl' vr (vl' vr (vl' vr (vn)))) (algebra_both__decision_Table__Xor_ctr h fun r r1 h => (wZ rg (o_extract (v := eDiagram r) rfl rfl rfl (wZ rg (o_extract (v := eErr 83 r1) rfl rfl rfl ?_))))))))
  refine wZ rg (o_storeB (atL (k := 4) rfl) sz25 (by decide) rfl (w := eDiagram r) rfl rfl rfl (v := eDiagram r) rfl setL (asZ (eErr 83 r1) rfl (nZ ?_)))
  refine Vc.ret' ?_
  refine res_cellA (atL (k := 4) rfl) sz25 (by decide) ag25 rfl rfl (v := eDiagram r) rfl (res_tmp (v := eErr 83 r1) rfl (res_nil ?_))
  show Gives _ (.tuple [eDiagram r, eErr 83 r1]) _
  exact gives_out hrg (VW.tupL (vl' vr (vl' vr (vn)))) (hQ _ _ h)
end Go.Proofs.Ytllegjdggcmgaaa
/- Walks of functions. Conditions: none. -/
namespace Go.Proofs.Ytllegjdggcmgaaa
open Go.Gg
set_option maxRecDepth 100000
theorem algebra_Implies_ctr {a : GDiagram} {b : GDiagram} {Q : Bool → Option Int → Prop} {S : St} {R : AV → St → Prop} (h : algebra_Implies_W a b Q) (hQ : ∀ r1 r2, Q r1 r2 → R (.tuple [AV.bool r1, eErr 83 r2]) S) :
    Ctr Try.prog 49 [eDiagram a, eDiagram b] S R := by
  unfold algebra_Implies_W at h
  refine enterT Try.func49 rfl Try.ntmps49 Try.results49 (by kernel_rfl) (fun rg hrg => ?_)
  refine qZ (rZ (wZ rg (o_box (v := eDiagram a) rfl rfl (kk := 3) rfl (by decide) (fun g1 => (wZ rg (o_box (v := eDiagram b) rfl rfl (kk := 3) rfl (by decide) (fun g2 => (asZ (.bool false) rfl (asZ .niface rfl (nZ (qZ (rZ (wZ rg (o_loadBA (atL (k := 2) rfl) sz25 (by decide) ag25 rfl rfl (v := eDiagram a) rfl ?_))))))))))))))
  refine wZ rg (o_loadBA (atL (k := 3) rfl) sz25 (by decide) ag25 rfl rfl (v := eDiagram b) rfl (wZ rg (o_bslice td142 ok25 zav25 (es := [eDiagram a, eDiagram b]) rfl (kk := 3) rfl rfl rfl rfl rfl rfl (fun g3 => ?_))))
  refine Wl.wk (canon_freeze (k := 12) (xs := List.map eDiagram [a, b]) rfl (es := [(12, eL eDiagram [a, b])]) (fc (frz_full rfl) (fn)) (m := []) (sn)) ?_
  refine wZ rg (o_call (us := [eL eDiagram [a, b]]) rfl (vl' vr (vn)) (algebra_open_ctr rg 1400000 1400001 1400002 1400003 1400004 1400005 h (fun r r1 h => ?_) (fun order place nodes unique memo r r1 g4 g5 g6 g7 g8 g9 h => ?_)))
  · replace h := h.1 rfl
    refine mvZ (.tuple [.nilp, eL (AV.int .i64) r, eErr 83 r1]) rfl (wZ rg (o_extract (v := .nilp) rfl rfl rfl (wZ rg (o_extract (v := eL (AV.int .i64) r) rfl rfl rfl (wZ rg (o_extract (v := eErr 83 r1) rfl rfl rfl (asZ .nilp rfl (asZ (eL (AV.int .i64) r) rfl (asZ (eErr 83 r1) rfl (nZ (qZ (qZ (rZ (mvZ (eErr 83 r1) rfl (wZ rg (o_isnon td29 (E := 83) rfl rfl rfl (nZ ?_)))))))))))))))))
    refine Vc.cond' rfl (fun hb1 => ?_) (fun hb1 => ?_)
    · replace h := h.1 hb1
      refine qZ (rZ (mvZ (eErr 83 r1) rfl (asZ (.bool false) rfl (asZ (eErr 83 r1) rfl (nZ ?_)))))
      refine Vc.ret' ?_
      refine res_tmp (v := .bool false) rfl (res_tmp (v := eErr 83 r1) rfl (res_nil ?_))
      show Gives _ (.tuple [.bool false, eErr 83 r1]) _
      exact gives_out hrg (VW.tupL (vl' vr (vl' vr (vn)))) (hQ _ _ h)
    replace h := h.2 hb1
    refine Vc.skip' ?_
    refine qZ ?_
    exact h.elim
  replace h := h.2 (order, place, nodes, unique, memo) rfl
  refine Wl.eqS (sy_c (sy_c (sy_c (sy_c (sy_c (sy_c (sx_n) setL) setL) setL) setL) setL) setL) ?_
  refine mvZ (.tuple [.ptr rg 1400000 g4 0 0, eL (AV.int .i64) r, eErr 83 r1]) rfl (wZ rg (o_extract (v := .ptr rg 1400000 g4 0 0) rfl rfl rfl (wZ rg (o_extract (v := eL (AV.int .i64) r) rfl rfl rfl (wZ rg (o_extract (v := eErr 83 r1) rfl rfl rfl (asZ (.ptr rg 1400000 g4 0 0) rfl (asZ (eL (AV.int .i64) r) rfl (asZ (eErr 83 r1) rfl (nZ (qZ (qZ (rZ (mvZ (eErr 83 r1) rfl ?_))))))))))))))
  refine wZ rg (o_isnon td29 (E := 83) rfl rfl rfl (nZ ?_))
  refine Vc.cond' rfl (fun hb => ?_) (fun hb => ?_)
  · replace h := h.1 hb
    refine qZ (rZ (mvZ (eErr 83 r1) rfl (asZ (.bool false) rfl (asZ (eErr 83 r1) rfl (nZ ?_)))))
    refine Vc.ret' ?_
    refine res_tmp (v := .bool false) rfl (res_tmp (v := eErr 83 r1) rfl (res_nil ?_))
    show Gives _ (.tuple [.bool false, eErr 83 r1]) _
    exact gives_out hrg (VW.tupL (vl' vr (vl' vr (vn)))) (hQ _ _ h)
  replace h := h.2 hb
  refine Vc.skip' ?_
  refine qZ ?_
  have hg := h.1
  replace h := h.2
  have hg1 := h.1
  replace h := h.2
  obtain ⟨u, u1, u2, r2, hc, h⟩ := h
  obtain ⟨_, hc⟩ := hc
  refine Vc.drawn' mixed rg (usOf [(7, wc (fun _ => .int .i64 r2) [(rg, 1400001), (rg, 1400002)] [(rg, 1400000), (rg, 1400003), (rg, 1400004), (rg, 1400005)] (fun gm => [(rg, 1400000, .arr 5 [.agg [.sl 1 rg 1400001 g5 0 order.length, .sl 1 rg 1400002 g6 0 place.length, .sl 3 rg 1400003 (gm 0) 0 u.length, .map rg 1400004 g8, .map rg 1400005 g9]], g4), (rg, 1400003, .arr 3 (List.map eDNode u), (gm 0)), (rg, 1400004, mapE (AV.int .i64) (.many [.i64, .i64, .i64]) u1, g8), (rg, 1400005, mapE (AV.int .i64) (.many [.i64, .i64, .i64]) u2, g9)]))]) (by kernel_rfl) ?_
  refine dP rfl rfl (o_move (v := .ptr rg 1400000 g4 0 0) rfl (dP rfl rfl (o_move (v := eL (AV.int .i64) r) rfl (dP rfl rfl (o_idxL td22 sz3 (by decide) (fun _ => rfl) rfl rfl hg (dP rfl rfl (o_loadI1 sz3 ag3 rfl rfl (v := .int .i64 (at' r 0)) rfl (dP rfl rfl (o_move (v := eL (AV.int .i64) r) rfl (dP rfl rfl (o_idxL td22 sz3 (by decide) (fun _ => rfl) rfl rfl hg1 ?_)))))))))))
  refine dP rfl rfl (o_loadI1 sz3 ag3 rfl rfl (v := .int .i64 (at' r 1)) rfl ?_)
  refine dCE (vs := [.ptr rg 1400000 g4 0 0, AV.int .i64 (at' r 0), AV.int .i64 (at' r 1), AV.int .i64 1]) (V := fun _ => .int .i64 r2) (rd := [(rg, 1400001), (rg, 1400002)]) (wk := [(rg, 1400000), (rg, 1400003), (rg, 1400004), (rg, 1400005)]) (wr := fun gm => [(rg, 1400000, .arr 5 [.agg [.sl 1 rg 1400001 g5 0 order.length, .sl 1 rg 1400002 g6 0 place.length, .sl 3 rg 1400003 (gm 0) 0 u.length, .map rg 1400004 g8, .map rg 1400005 g9]], g4), (rg, 1400003, .arr 3 (List.map eDNode u), (gm 0)), (rg, 1400004, mapE (AV.int .i64) (.many [.i64, .i64, .i64]) u1, g8), (rg, 1400005, mapE (AV.int .i64) (.many [.i64, .i64, .i64]) u2, g9)]) rfl (vl' vr (vl' vr (vl' vr (vl' vr (vn))))) rfl (cfn) (by simp) (fun _ => rfl) (fun S' hA hB => ctrX (sx_c (ag hB 0 rfl (atL (k := 1400000) rfl)) (sx_c (ag hB 1 rfl (atL (k := 1400003) rfl)) (sx_c (ag hB 2 rfl (atL (k := 1400004) rfl)) (sx_c (ag hB 3 rfl (atL (k := 1400005) rfl)) (sx_c (ag hA 0 rfl (atL (k := 1400001) rfl)) (sx_c (ag hA 1 rfl (atL (k := 1400002) rfl)) (sx_n))))))) (decision_Table__Choose__e_ctr (dk_c (ni_c (ni_o rfl) (ni_c (ni_o rfl) (ni_c (ni_o rfl) (ni_c (ni_o rfl) (ni_c (ni_o rfl) (ni_n)))))) (dk_c (ni_c (ni_o rfl) (ni_c (ni_o rfl) (ni_c (ni_o rfl) (ni_c (ni_o rfl) (ni_n))))) (dk_c (ni_c (ni_o rfl) (ni_c (ni_o rfl) (ni_c (ni_o rfl) (ni_n)))) (dk_c (ni_c (ni_o rfl) (ni_c (ni_o rfl) (ni_n))) (dk_c (ni_c (ni_o rfl) (ni_n)) (dk_c (ni_n) (dk_n))))))) hc (fun _ _ _ _ h3 he => by obtain ⟨rfl, rfl, rfl, rfl⟩ := he; exact ⟨fun i => [h3].getD i 0, rfl, sm_c (sm_c (sm_c (sm_c (sx_c (ag hA 0 rfl (atL (k := 1400001) rfl)) (sx_c (ag hA 1 rfl (atL (k := 1400002) rfl)) (sx_n))))))⟩))) (fun gm => ?_)
  refine vdT.eqS (sa_c (sa_c (sa_c (sa_c (sa_n) setL) setL) setL) setL) ?_
  refine dP rfl rfl (o_eql rfl rfl (dP rfl rfl (o_assign (v := .bool (r2 == 1)) rfl (dP rfl rfl (o_assign (v := .niface) rfl (dN ?_))))))
  refine Vc.ret' ?_
  refine res_tmp (v := .bool (r2 == 1)) rfl (res_tmp (v := .niface) rfl (res_nil ?_))
  show Gives _ (.tuple [.bool (r2 == 1), .niface]) _
  exact gives_out hrg (VW.tupL (vl' vr (vl' vr (vn)))) (hQ _ _ h)
end Go.Proofs.Ytllegjdggcmgaaa
/- Walks of functions. Conditions: none. -/
namespace Go.Proofs.Ytllegjdggcmgaaa
open Go.Gg
set_option maxRecDepth 100000
theorem ref16_Implies_ctr {a : GDiagram} {b : GDiagram} {Q : Bool → Prop} {S : St} {R : AV → St → Prop} (h : ref16_Implies_W a b Q) (hQ : ∀ r1, Q r1 → R (AV.bool r1) S) :
    Ctr Try.prog 51 [eDiagram a, eDiagram b] S R := by
  unfold ref16_Implies_W at h
  refine enterT Try.func51 rfl Try.ntmps51 Try.results51 (by kernel_rfl) (fun rg hrg => ?_)
  refine qZ (rZ (wZ rg (o_box (v := eDiagram a) rfl rfl (kk := 3) rfl (by decide) (fun g1 => (wZ rg (o_box (v := eDiagram b) rfl rfl (kk := 3) rfl (by decide) (fun g2 => (asZ (.bool false) rfl (nZ (qZ ?_))))))))))
  obtain ⟨x, hc, h⟩ := h
  obtain ⟨y1, hc1, h⟩ := h
  refine Vc.drawn' mixed rg (usOf [(1, pc (eL AV.bool x)), (3, pc (eL AV.bool y1))]) (by kernel_rfl) ?_
  refine dL (E := ([(rg, 2)], [])) rfl rfl (by simp) (cfn) (o_loadBA (atL (k := 2) rfl) sz25 (by decide) ag25 rfl rfl (v := eDiagram a) rfl ?_)
  refine dC (vs := [eDiagram a]) rfl (vl' vr (vn)) (fun _ => ref15_Table_ctr hc (fun _ hr => ⟨by rw [hr], rfl⟩)) rfl ?_
  refine dL (E := ([(rg, 3)], [])) rfl rfl (by simp) (cfa (by simp [apartE]) (cfn)) (o_loadBA (atL (k := 3) rfl) sz25 (by decide) ag25 rfl rfl (v := eDiagram b) rfl ?_)
  refine dC (vs := [eDiagram b]) rfl (vl' vr (vn)) (fun _ => ref15_Table_ctr hc1 (fun _ hr => ⟨by rw [hr], rfl⟩)) rfl ?_
  refine dP rfl rfl (o_assign (v := eL AV.bool x) rfl (dP rfl rfl (o_assign (v := eL AV.bool y1) rfl (dN (qZ (qZ (rZ (asZ (.int .i64 0) rfl (nZ ?_)))))))))
  refine Vc.blk ?_
  obtain ⟨I, μ, h0, hI⟩ := h
  refine Vc.loop' (σ := (Int)) (fun y => I y) (fun y => μ y) (fun y => envOf [(5, eL AV.bool x), (6, eL AV.bool y1), (7, .int .i64 y)]) (fun y => stL S rg []) 0 (canon (fc vr (fc vr (fc vr (fn)))) (sn)) h0 (fun s h => ?_)
  replace h := hI s h
  show Vc _ _ _ _ (envOf [(5, eL AV.bool x), (6, eL AV.bool y1), (7, .int .i64 s)]) (stL S rg [])
  refine qZ (qZ (rZ (mvZ (.int .i64 s) rfl (mvZ (eL AV.bool x) rfl (wZ rg (o_len td139 rfl (wZ rg (o_lss rfl rfl (nZ ?_)))))))))
  refine Vc.cond' rfl (fun hb => ?_) (fun hb => ?_)
  · replace h := h.1 hb
    refine Vc.skip' ?_
    refine qZ ?_
    refine Vc.blk ?_
    refine qZ (rZ (mvZ (eL AV.bool x) rfl (mvZ (.int .i64 s) rfl (wZ rg (o_idxL td139 sz4 (by decide) (fun _ => rfl) rfl rfl h.1 ?_)))))
    replace h := h.2
    refine wZ rg (o_loadI1 sz4 ag4 rfl rfl (v := .bool (at' x s)) rfl (mvZ (.bool (at' x s)) rfl ?_))
    refine Wl.guard rfl rfl (fun hb1 => ?_) (fun hb1 => ?_)
    · replace h := h.1 hb1
      refine mvZ (eL AV.bool y1) rfl ?_
      refine Wl.guardT rfl rfl hb1 ?_
      refine mvZ (.int .i64 s) rfl ?_
      refine Wl.guardT rfl rfl hb1 ?_
      refine wZ rg (o_idxL td139 sz4 (by decide) (fun _ => rfl) rfl rfl h.1 ?_)
      replace h := h.2
      refine Wl.guardT rfl rfl hb1 ?_
      refine wZ rg (o_loadI1 sz4 ag4 rfl rfl (v := .bool (at' y1 s)) rfl ?_)
      refine Wl.guardT rfl rfl hb1 ?_
      refine wZ rg (o_not rfl (wZ rg (o_pickT rfl hb1 (v := .bool (!(at' y1 s))) rfl (nZ ?_))))
      refine Vc.cond' rfl (fun hb2 => ?_) (fun hb2 => ?_)
      · replace h := h.1 hb2
        refine qZ (rZ (asZ (.bool false) rfl (nZ ?_)))
        refine Vc.ret' ?_
        refine res_tmp (v := .bool false) rfl (res_nil ?_)
        show Gives _ (.bool false) _
        exact gives_out hrg (VW.refl _) (hQ _ h)
      replace h := h.2 hb2
      refine Vc.skip' ?_
      refine rZ ?_
      refine mvZ (.int .i64 s) rfl (wZ rg (o_addG rfl rfl h.1 ?_))
      replace h := h.2
      refine asZ (.int .i64 (s + 1)) rfl (nZ ?_)
      exact ⟨(s + 1), (canon (fc vr (fc vr (fc vr (fn)))) (sn)), h⟩
    replace h := h.2 hb1
    refine Wl.guardF rfl rfl hb1 rfl ?_
    refine Wl.guardF rfl rfl hb1 rfl ?_
    refine Wl.guardF rfl rfl hb1 rfl ?_
    refine Wl.guardF rfl rfl hb1 rfl ?_
    refine wZ rg (o_pickF rfl hb1 (v := .bool false) rfl (nZ ?_))
    refine Vc.cond' rfl (fun hb => Bool.noConfusion hb) (fun _ => ?_)
    refine Vc.skip' ?_
    refine rZ ?_
    refine mvZ (.int .i64 s) rfl (wZ rg (o_addG rfl rfl h.1 ?_))
    replace h := h.2
    refine asZ (.int .i64 (s + 1)) rfl (nZ ?_)
    exact ⟨(s + 1), (canon (fc vr (fc vr (fc vr (fn)))) (sn)), h⟩
  replace h := h.2 hb
  refine Vc.exit' (exB_self ?_)
  refine qZ (rZ (asZ (.bool true) rfl (nZ ?_)))
  refine Vc.ret' ?_
  refine res_tmp (v := .bool true) rfl (res_nil ?_)
  show Gives _ (.bool true) _
  exact gives_out hrg (VW.refl _) (hQ _ h)
theorem ref16_Apply_ctr {op : Int} {a : GDiagram} {b : GDiagram} {Q : GDiagram → Prop} {S : St} {R : AV → St → Prop} (h : ref16_Apply_W op a b Q) (hQ : ∀ r1, Q r1 → R (eDiagram r1) S) :
    Ctr Try.prog 52 [AV.int .i64 op, eDiagram a, eDiagram b] S R := by
  unfold ref16_Apply_W at h
  refine enterT Try.func52 rfl Try.ntmps52 Try.results52 (by kernel_rfl) (fun rg hrg => ?_)
  refine qZ (rZ (wZ rg (o_box (v := eDiagram a) rfl rfl (kk := 3) rfl (by decide) (fun g1 => (wZ rg (o_box (v := eDiagram b) rfl rfl (kk := 3) rfl (by decide) (fun g2 => (wZ rg (o_alloc zav25 ok25 (kk := 3) rfl (fun g3 => (nZ (qZ ?_))))))))))))
  obtain ⟨x, hc, h⟩ := h
  obtain ⟨y1, hc1, h⟩ := h
  refine Vc.drawn' mixed rg (usOf [(1, wc (fun gm => .sl 1 rg 11 (gm 0) 0 x.length) [] [(rg, 11)] (fun gm => [(rg, 11, .arr 1 (List.map AV.bool x), gm 0)])), (3, pc (eL AV.bool y1))]) (by kernel_rfl) ?_
  refine dL (E := ([(rg, 4)], [])) rfl rfl (by simp) (cfn) (o_loadBA (atL (k := 4) rfl) sz25 (by decide) ag25 rfl rfl (v := eDiagram a) rfl ?_)
  refine dCE (vs := [eDiagram a]) (V := fun gm => .sl 1 rg 11 (gm 0) 0 x.length) (rd := []) (wk := [(rg, 11)]) (wr := fun gm => [(rg, 11, .arr 1 (List.map AV.bool x), gm 0)]) rfl (vl' vr (vn)) rfl (cfo (by kernel_rfl) (cfn)) (by simp) (fun _ => rfl) (fun S' _ _ => ref15_Table_ctrO rg 11 hc (fun _ g he => by obtain rfl := he; exact ⟨fun _ => g, rfl, rfl⟩)) (fun gm => ?_)
  refine vdT.eqS setL ?_
  refine dL (E := ([(rg, 5)], [])) rfl rfl (by simp) (cfa (by simp [apartE]) (cfa (by simp [apartE]) (cfn))) (o_loadBA (atL (k := 5) rfl) sz25 (by decide) ag25 rfl rfl (v := eDiagram b) rfl ?_)
  refine dC (vs := [eDiagram b]) rfl (vl' vr (vn)) (fun _ => ref15_Table_ctr hc1 (fun _ hr => ⟨by rw [hr], rfl⟩)) rfl ?_
  refine dP rfl rfl (o_assign (v := .sl 1 rg 11 (gm 0) 0 x.length) rfl (dP rfl rfl (o_assign (v := eL AV.bool y1) rfl (dN (qZ (qZ (rZ (asZ (.int .i64 0) rfl (nZ ?_)))))))))
  refine Vc.blk ?_
  obtain ⟨I, μ, h0, hI⟩ := h
  refine Vc.loop' (σ := (Int × (List Bool))) (fun y => I y) (fun y => μ y) (fun y => envOf [(0, .int .i64 op), (4, .ptr rg 4 g1 0 0), (6, .ptr rg 6 g3 0 0), (7, .sl 1 rg 11 (gm 0) 0 y.2.length), (8, eL AV.bool y1), (9, .int .i64 y.1)]) (fun y => stL S rg [(4, .arr 3 [eDiagram a], g1), (6, .arr 3 [.agg [.nil, .nil, .int .i64 0]], g3), (11, .arr 1 (List.map AV.bool y.2), (gm 0))]) (0, x) (canon (fc vr (fc vr (fc vr (fc vr (fc vr (fc vr (fn))))))) (sc rfl (sc rfl (sc rfl (sn))))) h0 (fun y h => ?_)
  obtain ⟨s, x1⟩ := y
  replace h := hI (s, x1) h
  show Vc _ _ _ _ (envOf [(0, .int .i64 op), (4, .ptr rg 4 g1 0 0), (6, .ptr rg 6 g3 0 0), (7, .sl 1 rg 11 (gm 0) 0 x1.length), (8, eL AV.bool y1), (9, .int .i64 s)]) (stL S rg [(4, .arr 3 [eDiagram a], g1), (6, .arr 3 [.agg [.nil, .nil, .int .i64 0]], g3), (11, .arr 1 (List.map AV.bool x1), (gm 0))])
  refine qZ (qZ (rZ (mvZ (.int .i64 s) rfl (mvZ (.sl 1 rg 11 (gm 0) 0 x1.length) rfl (wZ rg (o_lenR td139 rfl (wZ rg (o_lss rfl rfl (nZ ?_)))))))))
  refine Vc.cond' rfl (fun hb => ?_) (fun hb => ?_)
  · replace h := h.1 hb
    refine Vc.skip' ?_
    refine qZ ?_
    refine Vc.blk ?_
    refine qZ (rZ (mvZ (.int .i64 op) rfl (nZ ?_)))
    refine Vc.blk ?_
    refine qZ (rZ (wZ rg (o_eql rfl rfl (asZ (.bool (op == 0)) rfl (nZ ?_)))))
    refine Vc.cond' rfl (fun hb1 => ?_) (fun hb1 => ?_)
    · replace h := h.1 hb1
      refine rZ ?_
      refine mvZ (.sl 1 rg 11 (gm 0) 0 x1.length) rfl (mvZ (.int .i64 s) rfl (mvZ (.sl 1 rg 11 (gm 0) 0 x1.length) rfl (mvZ (.int .i64 s) rfl (wZ rg (o_idxR0 td139 sz4 (by decide) rfl rfl h.1 ?_)))))
      have hi := h.1
      replace h := h.2
      refine wZ rg (o_loadR1 (atL (k := 11) rfl) sz4 ag4 rfl (lt_of hi (by first | rfl | omega | (simp only [go_sem] <;> omega))) rfl (v := .bool (at' x1 s)) rfl (mvZ (.bool (at' x1 s)) rfl ?_))
      refine Wl.guard rfl rfl (fun hb2 => ?_) (fun hb2 => ?_)
      · replace h := h.1 hb2
        refine mvZ (eL AV.bool y1) rfl ?_
        refine Wl.guardT rfl rfl hb2 ?_
        refine mvZ (.int .i64 s) rfl ?_
        refine Wl.guardT rfl rfl hb2 ?_
        refine wZ rg (o_idxL td139 sz4 (by decide) (fun _ => rfl) rfl rfl h.1 ?_)
        replace h := h.2
        refine Wl.guardT rfl rfl hb2 ?_
        refine wZ rg (o_loadI1 sz4 ag4 rfl rfl (v := .bool (at' y1 s)) rfl (wZ rg (o_pickT rfl hb2 (v := .bool (at' y1 s)) rfl (wZ rg (o_idxR0 td139 sz4 (by decide) rfl rfl h.1 ?_)))))
        have hi1 := h.1
        replace h := h.2
        refine wZ rg (o_storeR1 (atL (k := 11) rfl) sz4 (by decide) (x' := (at' y1 s)) (fun _ => rfl) rfl rfl (lt_of hi1 (by first | rfl | omega | (simp only [go_sem] <;> omega))) rfl rfl setL (nZ (rZ (mvZ (.int .i64 s) rfl (wZ rg (o_addG rfl rfl h.1 ?_))))))
        replace h := h.2
        refine asZ (.int .i64 (s + 1)) rfl (nZ ?_)
        exact ⟨((s + 1), (set' x1 s (at' y1 s))), (canon (fc vr (fc vr (fc vr (fc (VW.slen (by first | rfl | omega | (simp only [go_sem] <;> omega))) (fc vr (fc vr (fn))))))) (sc rfl (sc rfl (sc rfl (sn))))), h⟩
      replace h := h.2 hb2
      refine Wl.guardF rfl rfl hb2 rfl ?_
      refine Wl.guardF rfl rfl hb2 rfl ?_
      refine Wl.guardF rfl rfl hb2 rfl ?_
      refine wZ rg (o_pickF rfl hb2 (v := .bool false) rfl (wZ rg (o_idxR0 td139 sz4 (by decide) rfl rfl h.1 ?_)))
      have hi2 := h.1
      replace h := h.2
      refine wZ rg (o_storeR1 (atL (k := 11) rfl) sz4 (by decide) (x' := false) (fun _ => rfl) rfl rfl (lt_of hi2 (by first | rfl | omega | (simp only [go_sem] <;> omega))) rfl rfl setL (nZ (rZ (mvZ (.int .i64 s) rfl (wZ rg (o_addG rfl rfl h.1 ?_))))))
      replace h := h.2
      refine asZ (.int .i64 (s + 1)) rfl (nZ ?_)
      exact ⟨((s + 1), (set' x1 s false)), (canon (fc vr (fc vr (fc vr (fc (VW.slen (by first | rfl | omega | (simp only [go_sem] <;> omega))) (fc vr (fc vr (fn))))))) (sc rfl (sc rfl (sc rfl (sn))))), h⟩
    replace h := h.2 hb1
    refine qZ (rZ (wZ rg (o_eql rfl rfl (asZ (.bool (op == 1)) rfl (nZ ?_)))))
    refine Vc.cond' rfl (fun hb3 => ?_) (fun hb3 => ?_)
    · replace h := h.1 hb3
      refine rZ ?_
      refine mvZ (.sl 1 rg 11 (gm 0) 0 x1.length) rfl (mvZ (.int .i64 s) rfl (mvZ (.sl 1 rg 11 (gm 0) 0 x1.length) rfl (mvZ (.int .i64 s) rfl (wZ rg (o_idxR0 td139 sz4 (by decide) rfl rfl h.1 ?_)))))
      have hi3 := h.1
      replace h := h.2
      refine wZ rg (o_loadR1 (atL (k := 11) rfl) sz4 ag4 rfl (lt_of hi3 (by first | rfl | omega | (simp only [go_sem] <;> omega))) rfl (v := .bool (at' x1 s)) rfl (mvZ (.bool (at' x1 s)) rfl ?_))
      refine Wl.guard rfl rfl (fun hb4 => ?_) (fun hb4 => ?_)
      · replace h := h.2 hb4
        refine mvZ (eL AV.bool y1) rfl ?_
        refine Wl.guardT rfl rfl hb4 ?_
        refine mvZ (.int .i64 s) rfl ?_
        refine Wl.guardT rfl rfl hb4 ?_
        refine wZ rg (o_idxL td139 sz4 (by decide) (fun _ => rfl) rfl rfl h.1 ?_)
        replace h := h.2
        refine Wl.guardT rfl rfl hb4 ?_
        refine wZ rg (o_loadI1 sz4 ag4 rfl rfl (v := .bool (at' y1 s)) rfl (wZ rg (o_pickF rfl hb4 (v := .bool (at' y1 s)) rfl (wZ rg (o_idxR0 td139 sz4 (by decide) rfl rfl h.1 ?_)))))
        have hi4 := h.1
        replace h := h.2
        refine wZ rg (o_storeR1 (atL (k := 11) rfl) sz4 (by decide) (x' := (at' y1 s)) (fun _ => rfl) rfl rfl (lt_of hi4 (by first | rfl | omega | (simp only [go_sem] <;> omega))) rfl rfl setL (nZ (rZ (mvZ (.int .i64 s) rfl (wZ rg (o_addG rfl rfl h.1 ?_))))))
        replace h := h.2
        refine asZ (.int .i64 (s + 1)) rfl (nZ ?_)
        exact ⟨((s + 1), (set' x1 s (at' y1 s))), (canon (fc vr (fc vr (fc vr (fc (VW.slen (by first | rfl | omega | (simp only [go_sem] <;> omega))) (fc vr (fc vr (fn))))))) (sc rfl (sc rfl (sc rfl (sn))))), h⟩
      replace h := h.1 hb4
      refine Wl.guardF rfl rfl hb4 rfl ?_
      refine Wl.guardF rfl rfl hb4 rfl ?_
      refine Wl.guardF rfl rfl hb4 rfl ?_
      refine wZ rg (o_pickT rfl hb4 (v := .bool true) rfl (wZ rg (o_idxR0 td139 sz4 (by decide) rfl rfl h.1 ?_)))
      have hi5 := h.1
      replace h := h.2
      refine wZ rg (o_storeR1 (atL (k := 11) rfl) sz4 (by decide) (x' := true) (fun _ => rfl) rfl rfl (lt_of hi5 (by first | rfl | omega | (simp only [go_sem] <;> omega))) rfl rfl setL (nZ (rZ (mvZ (.int .i64 s) rfl (wZ rg (o_addG rfl rfl h.1 ?_))))))
      replace h := h.2
      refine asZ (.int .i64 (s + 1)) rfl (nZ ?_)
      exact ⟨((s + 1), (set' x1 s true)), (canon (fc vr (fc vr (fc vr (fc (VW.slen (by first | rfl | omega | (simp only [go_sem] <;> omega))) (fc vr (fc vr (fn))))))) (sc rfl (sc rfl (sc rfl (sn))))), h⟩
    replace h := h.2 hb3
    have hi6 := h.1
    replace h := h.2
    have hg := h.1
    replace h := h.2
    have hi7 := h.1
    replace h := h.2
    refine Vc.drawn' mixed rg (fun _ => jcr2) (by kernel_rfl) ?_
    refine dP rfl rfl (o_move (v := .sl 1 rg 11 (gm 0) 0 x1.length) rfl (dP rfl rfl (o_move (v := .int .i64 s) rfl (dP rfl rfl (o_move (v := .sl 1 rg 11 (gm 0) 0 x1.length) rfl (dP rfl rfl (o_move (v := .int .i64 s) rfl (dP rfl rfl (o_idxR0 td139 sz4 (by decide) rfl rfl hi6 ?_)))))))))
    refine dL (E := ([(rg, 11)], [])) rfl rfl (by simp) (cfn) (o_loadR1 (atL (k := 11) rfl) sz4 ag4 rfl (lt_of hi6 (by first | rfl | omega | (simp only [go_sem] <;> omega))) rfl (v := .bool (at' x1 s)) rfl (dP rfl rfl (o_move (v := eL AV.bool y1) rfl (dP rfl rfl (o_move (v := .int .i64 s) rfl (dP rfl rfl (o_idxL td139 sz4 (by decide) (fun _ => rfl) rfl rfl hg ?_)))))))
    refine dP rfl rfl (o_loadI1 sz4 ag4 rfl rfl (v := .bool (at' y1 s)) rfl (dP rfl rfl (o_neqB td4 rfl rfl (dP rfl rfl (o_idxR0 td139 sz4 (by decide) rfl rfl hi7 ?_)))))
    refine dL (E := ([], [(rg, 11)])) rfl rfl (by simp) (cfo (by kernel_rfl) (cfn)) (o_storeR1 (atL (k := 11) rfl) sz4 (by decide) (x' := ((at' x1 s) != (at' y1 s))) (fun _ => rfl) rfl rfl (lt_of hi7 (by first | rfl | omega | (simp only [go_sem] <;> omega))) rfl rfl setL (dN (rZ (mvZ (.int .i64 s) rfl (wZ rg (o_addG rfl rfl h.1 ?_))))))
    replace h := h.2
    refine asZ (.int .i64 (s + 1)) rfl (nZ ?_)
    exact ⟨((s + 1), (set' x1 s ((at' x1 s) != (at' y1 s)))), (canon (fc vr (fc vr (fc vr (fc (VW.slen (by first | rfl | omega | (simp only [go_sem] <;> omega))) (fc vr (fc vr (fn))))))) (sc rfl (sc rfl (sc rfl (sn))))), h⟩
  replace h := h.2 hb
  refine Vc.exit' (exB_self ?_)
  refine qZ (rZ (mvZ (.sl 1 rg 11 (gm 0) 0 x1.length) rfl (wZ rg (o_faP td25 rfl rfl (by rw [sz22]; decide) rfl (wZ rg (o_loadB1 (atL (k := 4) rfl) sz22 ag22 rfl rfl (v := eL (AV.int .i64) a.Order) rfl ?_))))))
  refine Wl.wk (canon_freeze (k := 11) (xs := List.map AV.bool x1) rfl (es := [(6, .ptr rg 6 g3 0 0), (63, eL AV.bool x1), (65, eL (AV.int .i64) a.Order)]) (fc vr (fc (frz_full rfl) (fc vr (fn)))) (m := [(6, .arr 3 [.agg [.nil, .nil, .int .i64 0]], g3)]) (sc rfl (sn))) ?_
  refine wZ rg (o_call (us := [eL AV.bool x1, eL (AV.int .i64) a.Order]) rfl (vl' vr (vl' vr (vn))) (ref15_Of_ctr h fun r h => (wZ rg (o_storeB (atL (k := 6) rfl) sz25 (by decide) rfl (w := eDiagram r) rfl rfl rfl (v := eDiagram r) rfl setL (nZ ?_)))))
  refine Vc.ret' ?_
  refine res_cellA (atL (k := 6) rfl) sz25 (by decide) ag25 rfl rfl (v := eDiagram r) rfl (res_nil ?_)
  show Gives _ (eDiagram r) _
  exact gives_out hrg (VW.refl _) (hQ _ h)
end Go.Proofs.Ytllegjdggcmgaaa
/- Walks of functions. Conditions: none. -/
namespace Go.Proofs.Ytllegjdggcmgaaa
open Go.Gg
set_option maxRecDepth 100000
theorem algebra_Choose_ctr {c : GDiagram} {a : GDiagram} {b : GDiagram} {Q : GDiagram → Option Int → Prop} {S : St} {R : AV → St → Prop} (h : algebra_Choose_W c a b Q) (hQ : ∀ r1 r2, Q r1 r2 → R (.tuple [eDiagram r1, eErr 83 r2]) S) :
    Ctr Try.prog 53 [eDiagram c, eDiagram a, eDiagram b] S R := by
  unfold algebra_Choose_W at h
  refine enterT Try.func53 rfl Try.ntmps53 Try.results53 (by kernel_rfl) (fun rg hrg => ?_)
  refine qZ (rZ (wZ rg (o_box (v := eDiagram c) rfl rfl (kk := 3) rfl (by decide) (fun g1 => (wZ rg (o_box (v := eDiagram a) rfl rfl (kk := 3) rfl (by decide) (fun g2 => (wZ rg (o_box (v := eDiagram b) rfl rfl (kk := 3) rfl (by decide) (fun g3 => (wZ rg (o_alloc zav25 ok25 (kk := 3) rfl (fun g4 => (asZ .niface rfl (nZ (qZ (rZ ?_)))))))))))))))))
  refine wZ rg (o_loadBA (atL (k := 3) rfl) sz25 (by decide) ag25 rfl rfl (v := eDiagram c) rfl (wZ rg (o_loadBA (atL (k := 4) rfl) sz25 (by decide) ag25 rfl rfl (v := eDiagram a) rfl (wZ rg (o_loadBA (atL (k := 5) rfl) sz25 (by decide) ag25 rfl rfl (v := eDiagram b) rfl (wZ rg (o_bslice td142 ok25 zav25 (es := [eDiagram c, eDiagram a, eDiagram b]) rfl (kk := 3) rfl rfl rfl rfl rfl rfl (fun g5 => ?_))))))))
  refine Wl.wk (canon_freeze (k := 15) (xs := List.map eDiagram [c, a, b]) rfl (es := [(6, .ptr rg 6 g4 0 0), (15, eL eDiagram [c, a, b])]) (fc vr (fc (frz_full rfl) (fn))) (m := [(6, .arr 3 [.agg [.nil, .nil, .int .i64 0]], g4)]) (sc rfl (sn))) ?_
  refine wZ rg (o_call (us := [eL eDiagram [c, a, b]]) rfl (vl' vr (vn)) (algebra_open_ctr rg 1700000 1700001 1700002 1700003 1700004 1700005 h (fun r r1 h => ?_) (fun order place nodes unique memo r r1 g6 g7 g8 g9 g10 g11 h => ?_)))
  · replace h := h.1 rfl
    refine mvZ (.tuple [.nilp, eL (AV.int .i64) r, eErr 83 r1]) rfl (wZ rg (o_extract (v := .nilp) rfl rfl rfl (wZ rg (o_extract (v := eL (AV.int .i64) r) rfl rfl rfl (wZ rg (o_extract (v := eErr 83 r1) rfl rfl rfl (asZ .nilp rfl (asZ (eL (AV.int .i64) r) rfl (asZ (eErr 83 r1) rfl (nZ (qZ (qZ (rZ (mvZ (eErr 83 r1) rfl (wZ rg (o_isnon td29 (E := 83) rfl rfl rfl (nZ ?_)))))))))))))))))
    refine Vc.cond' rfl (fun hb1 => ?_) (fun hb1 => ?_)
    · replace h := h.1 hb1
      refine qZ (rZ (wZ rg (o_build td25 zav25 bok25 szs25 sz25 (ps := []) rfl rfl (v := .agg [.nil, .nil, .int .i64 0]) rfl (mvZ (eErr 83 r1) rfl (wZ rg (o_storeB (atL (k := 6) rfl) sz25 (by decide) rfl (w := .agg [.nil, .nil, .int .i64 0]) rfl rfl rfl (v := .agg [.nil, .nil, .int .i64 0]) rfl setL (asZ (eErr 83 r1) rfl (nZ ?_))))))))
      refine Vc.ret' ?_
      refine res_cellA (atL (k := 6) rfl) sz25 (by decide) ag25 rfl rfl (v := .agg [.nil, .nil, .int .i64 0]) rfl (res_tmp (v := eErr 83 r1) rfl (res_nil ?_))
      show Gives _ (.tuple [.agg [.nil, .nil, .int .i64 0], eErr 83 r1]) _
      exact gives_out hrg (VW.tupL (vl' (VW.aggL (vl' (VW.nilL) (vl' (VW.nilL) (vl' vr (vn))))) (vl' vr (vn)))) (hQ _ _ h)
    replace h := h.2 hb1
    refine Vc.skip' ?_
    refine qZ ?_
    exact h.elim
  replace h := h.2 (order, place, nodes, unique, memo) rfl
  refine Wl.eqS (sy_c (sy_c (sy_c (sy_c (sy_c (sy_c (sx_n) setL) setL) setL) setL) setL) setL) ?_
  refine mvZ (.tuple [.ptr rg 1700000 g6 0 0, eL (AV.int .i64) r, eErr 83 r1]) rfl (wZ rg (o_extract (v := .ptr rg 1700000 g6 0 0) rfl rfl rfl (wZ rg (o_extract (v := eL (AV.int .i64) r) rfl rfl rfl (wZ rg (o_extract (v := eErr 83 r1) rfl rfl rfl (asZ (.ptr rg 1700000 g6 0 0) rfl (asZ (eL (AV.int .i64) r) rfl (asZ (eErr 83 r1) rfl (nZ (qZ (qZ (rZ (mvZ (eErr 83 r1) rfl ?_))))))))))))))
  refine wZ rg (o_isnon td29 (E := 83) rfl rfl rfl (nZ ?_))
  refine Vc.cond' rfl (fun hb => ?_) (fun hb => ?_)
  · replace h := h.1 hb
    refine qZ (rZ (wZ rg (o_build td25 zav25 bok25 szs25 sz25 (ps := []) rfl rfl (v := .agg [.nil, .nil, .int .i64 0]) rfl (mvZ (eErr 83 r1) rfl (wZ rg (o_storeB (atL (k := 6) rfl) sz25 (by decide) rfl (w := .agg [.nil, .nil, .int .i64 0]) rfl rfl rfl (v := .agg [.nil, .nil, .int .i64 0]) rfl setL (asZ (eErr 83 r1) rfl (nZ ?_))))))))
    refine Vc.ret' ?_
    refine res_cellA (atL (k := 6) rfl) sz25 (by decide) ag25 rfl rfl (v := .agg [.nil, .nil, .int .i64 0]) rfl (res_tmp (v := eErr 83 r1) rfl (res_nil ?_))
    show Gives _ (.tuple [.agg [.nil, .nil, .int .i64 0], eErr 83 r1]) _
    exact gives_out hrg (VW.tupL (vl' (VW.aggL (vl' (VW.nilL) (vl' (VW.nilL) (vl' vr (vn))))) (vl' vr (vn)))) (hQ _ _ h)
  replace h := h.2 hb
  refine Vc.skip' ?_
  refine qZ ?_
  have hg := h.1
  replace h := h.2
  have hg1 := h.1
  replace h := h.2
  have hg2 := h.1
  replace h := h.2
  obtain ⟨u, u1, u2, r2, hc, h⟩ := h
  obtain ⟨_, hc⟩ := hc
  obtain ⟨r3, r4, hc1, h⟩ := h
  refine Vc.drawn' mixed rg (usOf [(11, wc (fun _ => .int .i64 r2) [(rg, 1700001), (rg, 1700002)] [(rg, 1700000), (rg, 1700003), (rg, 1700004), (rg, 1700005)] (fun gm => [(rg, 1700000, .arr 5 [.agg [.sl 1 rg 1700001 g7 0 order.length, .sl 1 rg 1700002 g8 0 place.length, .sl 3 rg 1700003 (gm 0) 0 u.length, .map rg 1700004 g10, .map rg 1700005 g11]], g6), (rg, 1700003, .arr 3 (List.map eDNode u), (gm 0)), (rg, 1700004, mapE (AV.int .i64) (.many [.i64, .i64, .i64]) u1, g10), (rg, 1700005, mapE (AV.int .i64) (.many [.i64, .i64, .i64]) u2, g11)])), (12, wc (fun _ => .tuple [eDiagram r3, eErr 83 r4]) [(rg, 1700000), (rg, 1700001), (rg, 1700002), (rg, 1700003), (rg, 1700004), (rg, 1700005)] [] (fun _ => []))]) (by kernel_rfl) ?_
  refine dP rfl rfl (o_move (v := .ptr rg 1700000 g6 0 0) rfl (dP rfl rfl (o_move (v := .ptr rg 1700000 g6 0 0) rfl (dP rfl rfl (o_move (v := eL (AV.int .i64) r) rfl (dP rfl rfl (o_idxL td22 sz3 (by decide) (fun _ => rfl) rfl rfl hg (dP rfl rfl (o_loadI1 sz3 ag3 rfl rfl (v := .int .i64 (at' r 0)) rfl (dP rfl rfl (o_move (v := eL (AV.int .i64) r) rfl ?_)))))))))))
  refine dP rfl rfl (o_idxL td22 sz3 (by decide) (fun _ => rfl) rfl rfl hg1 (dP rfl rfl (o_loadI1 sz3 ag3 rfl rfl (v := .int .i64 (at' r 1)) rfl (dP rfl rfl (o_move (v := eL (AV.int .i64) r) rfl (dP rfl rfl (o_idxL td22 sz3 (by decide) (fun _ => rfl) rfl rfl hg2 (dP rfl rfl (o_loadI1 sz3 ag3 rfl rfl (v := .int .i64 (at' r 2)) rfl ?_)))))))))
  refine dCE (vs := [.ptr rg 1700000 g6 0 0, AV.int .i64 (at' r 0), AV.int .i64 (at' r 1), AV.int .i64 (at' r 2)]) (V := fun _ => .int .i64 r2) (rd := [(rg, 1700001), (rg, 1700002)]) (wk := [(rg, 1700000), (rg, 1700003), (rg, 1700004), (rg, 1700005)]) (wr := fun gm => [(rg, 1700000, .arr 5 [.agg [.sl 1 rg 1700001 g7 0 order.length, .sl 1 rg 1700002 g8 0 place.length, .sl 3 rg 1700003 (gm 0) 0 u.length, .map rg 1700004 g10, .map rg 1700005 g11]], g6), (rg, 1700003, .arr 3 (List.map eDNode u), (gm 0)), (rg, 1700004, mapE (AV.int .i64) (.many [.i64, .i64, .i64]) u1, g10), (rg, 1700005, mapE (AV.int .i64) (.many [.i64, .i64, .i64]) u2, g11)]) rfl (vl' vr (vl' vr (vl' vr (vl' vr (vn))))) rfl (cfn) (by simp) (fun _ => rfl) (fun S' hA hB => ctrX (sx_c (ag hB 0 rfl (atL (k := 1700000) rfl)) (sx_c (ag hB 1 rfl (atL (k := 1700003) rfl)) (sx_c (ag hB 2 rfl (atL (k := 1700004) rfl)) (sx_c (ag hB 3 rfl (atL (k := 1700005) rfl)) (sx_c (ag hA 0 rfl (atL (k := 1700001) rfl)) (sx_c (ag hA 1 rfl (atL (k := 1700002) rfl)) (sx_n))))))) (decision_Table__Choose__e_ctr (dk_c (ni_c (ni_o rfl) (ni_c (ni_o rfl) (ni_c (ni_o rfl) (ni_c (ni_o rfl) (ni_c (ni_o rfl) (ni_n)))))) (dk_c (ni_c (ni_o rfl) (ni_c (ni_o rfl) (ni_c (ni_o rfl) (ni_c (ni_o rfl) (ni_n))))) (dk_c (ni_c (ni_o rfl) (ni_c (ni_o rfl) (ni_c (ni_o rfl) (ni_n)))) (dk_c (ni_c (ni_o rfl) (ni_c (ni_o rfl) (ni_n))) (dk_c (ni_c (ni_o rfl) (ni_n)) (dk_c (ni_n) (dk_n))))))) hc (fun _ _ _ _ h3 he => by obtain ⟨rfl, rfl, rfl, rfl⟩ := he; exact ⟨fun i => [h3].getD i 0, rfl, sm_c (sm_c (sm_c (sm_c (sx_c (ag hA 0 rfl (atL (k := 1700001) rfl)) (sx_c (ag hA 1 rfl (atL (k := 1700002) rfl)) (sx_n))))))⟩))) (fun gm => ?_)
  refine vdT.eqS (sa_c (sa_c (sa_c (sa_c (sa_n) setL) setL) setL) setL) ?_
  refine dCE (vs := [.ptr rg 1700000 g6 0 0, AV.int .i64 r2]) (V := fun _ => .tuple [eDiagram r3, eErr 83 r4]) (rd := [(rg, 1700000), (rg, 1700001), (rg, 1700002), (rg, 1700003), (rg, 1700004), (rg, 1700005)]) (wk := []) (wr := fun _ => []) rfl (vl' vr (vl' vr (vn))) rfl (cfo (by kernel_rfl) (cfn)) (by simp) (fun _ => rfl) (fun S' hA hB => ctrX (sx_c (ag hA 0 rfl (atL (k := 1700000) rfl)) (sx_c (ag hA 1 rfl (atL (k := 1700001) rfl)) (sx_c (ag hA 2 rfl (atL (k := 1700002) rfl)) (sx_c (ag hA 3 rfl (atL (k := 1700003) rfl)) (sx_c (ag hA 4 rfl (atL (k := 1700004) rfl)) (sx_c (ag hA 5 rfl (atL (k := 1700005) rfl)) (sx_n))))))) (algebra_result__e_ctr (dk_c (ni_c (ni_o rfl) (ni_c (ni_o rfl) (ni_c (ni_o rfl) (ni_c (ni_o rfl) (ni_c (ni_o rfl) (ni_n)))))) (dk_c (ni_c (ni_o rfl) (ni_c (ni_o rfl) (ni_c (ni_o rfl) (ni_c (ni_o rfl) (ni_n))))) (dk_c (ni_c (ni_o rfl) (ni_c (ni_o rfl) (ni_c (ni_o rfl) (ni_n)))) (dk_c (ni_c (ni_o rfl) (ni_c (ni_o rfl) (ni_n))) (dk_c (ni_c (ni_o rfl) (ni_n)) (dk_c (ni_n) (dk_n))))))) hc1 (fun _ _ he => by obtain ⟨rfl, rfl⟩ := he; exact ⟨fun i => ([] : List Nat).getD i 0, rfl, sx_c (ag hA 0 rfl (atL (k := 1700000) rfl)) (sx_c (ag hA 1 rfl (atL (k := 1700001) rfl)) (sx_c (ag hA 2 rfl (atL (k := 1700002) rfl)) (sx_c (ag hA 3 rfl (atL (k := 1700003) rfl)) (sx_c (ag hA 4 rfl (atL (k := 1700004) rfl)) (sx_c (ag hA 5 rfl (atL (k := 1700005) rfl)) (sx_n))))))⟩))) (fun _ => ?_)
  refine vdT.eqS (sa_n) ?_
  refine dP rfl rfl (o_extract (v := eDiagram r3) rfl rfl rfl (dP rfl rfl (o_extract (v := eErr 83 r4) rfl rfl rfl (dL (E := ([], [(rg, 6)])) rfl rfl (by simp) (cfo (by kernel_rfl) (cfo (by kernel_rfl) (cfn))) (o_storeB (atL (k := 6) rfl) sz25 (by decide) rfl (w := eDiagram r3) rfl rfl rfl (v := eDiagram r3) rfl setL (dP rfl rfl (o_assign (v := eErr 83 r4) rfl (dN ?_))))))))
  refine Vc.ret' ?_
  refine res_cellA (atL (k := 6) rfl) sz25 (by decide) ag25 rfl rfl (v := eDiagram r3) rfl (res_tmp (v := eErr 83 r4) rfl (res_nil ?_))
  show Gives _ (.tuple [eDiagram r3, eErr 83 r4]) _
  exact gives_out hrg (VW.tupL (vl' vr (vl' vr (vn)))) (hQ _ _ h)
theorem algebra_Compose_ctr {d : GDiagram} {i : Int} {g1 : GDiagram} {Q : GDiagram → Option Int → Prop} {S : St} {R : AV → St → Prop} (h : algebra_Compose_W d i g1 Q) (hQ : ∀ r1 r2, Q r1 r2 → R (.tuple [eDiagram r1, eErr 83 r2]) S) :
    Ctr Try.prog 54 [eDiagram d, AV.int .i64 i, eDiagram g1] S R := by
  unfold algebra_Compose_W at h
  refine enterT Try.func54 rfl Try.ntmps54 Try.results54 (by kernel_rfl) (fun rg hrg => ?_)
  refine qZ (rZ (wZ rg (o_box (v := eDiagram d) rfl rfl (kk := 3) rfl (by decide) (fun g2 => (wZ rg (o_box (v := eDiagram g1) rfl rfl (kk := 3) rfl (by decide) (fun g3 => (wZ rg (o_alloc zav25 ok25 (kk := 3) rfl (fun g4 => (asZ .niface rfl (nZ (qZ (rZ (wZ rg (o_loadBA (atL (k := 3) rfl) sz25 (by decide) ag25 rfl rfl (v := eDiagram d) rfl ?_))))))))))))))))
  refine wZ rg (o_loadBA (atL (k := 5) rfl) sz25 (by decide) ag25 rfl rfl (v := eDiagram g1) rfl (wZ rg (o_bslice td142 ok25 zav25 (es := [eDiagram d, eDiagram g1]) rfl (kk := 3) rfl rfl rfl rfl rfl rfl (fun g5 => ?_))))
  refine Wl.wk (canon_freeze (k := 14) (xs := List.map eDiagram [d, g1]) rfl (es := [(1, .int .i64 i), (3, .ptr rg 3 g2 0 0), (6, .ptr rg 6 g4 0 0), (14, eL eDiagram [d, g1])]) (fc vr (fc vr (fc vr (fc (frz_full rfl) (fn))))) (m := [(3, .arr 3 [eDiagram d], g2), (6, .arr 3 [.agg [.nil, .nil, .int .i64 0]], g4)]) (sc rfl (sc rfl (sn)))) ?_
  refine wZ rg (o_call (us := [eL eDiagram [d, g1]]) rfl (vl' vr (vn)) (algebra_open_ctr rg 1600000 1600001 1600002 1600003 1600004 1600005 h (fun r r1 h => ?_) (fun order place nodes unique memo r r1 g6 g7 g8 g9 g10 g11 h => ?_)))
  · replace h := h.1 rfl
    refine mvZ (.tuple [.nilp, eL (AV.int .i64) r, eErr 83 r1]) rfl (wZ rg (o_extract (v := .nilp) rfl rfl rfl (wZ rg (o_extract (v := eL (AV.int .i64) r) rfl rfl rfl (wZ rg (o_extract (v := eErr 83 r1) rfl rfl rfl (asZ .nilp rfl (asZ (eL (AV.int .i64) r) rfl (asZ (eErr 83 r1) rfl (nZ (qZ (qZ (rZ (mvZ (eErr 83 r1) rfl (wZ rg (o_isnon td29 (E := 83) rfl rfl rfl (nZ ?_)))))))))))))))))
    refine Vc.cond' rfl (fun hb3 => ?_) (fun hb3 => ?_)
    · replace h := h.1 hb3
      refine qZ (rZ (wZ rg (o_build td25 zav25 bok25 szs25 sz25 (ps := []) rfl rfl (v := .agg [.nil, .nil, .int .i64 0]) rfl (mvZ (eErr 83 r1) rfl (wZ rg (o_storeB (atL (k := 6) rfl) sz25 (by decide) rfl (w := .agg [.nil, .nil, .int .i64 0]) rfl rfl rfl (v := .agg [.nil, .nil, .int .i64 0]) rfl setL (asZ (eErr 83 r1) rfl (nZ ?_))))))))
      refine Vc.ret' ?_
      refine res_cellA (atL (k := 6) rfl) sz25 (by decide) ag25 rfl rfl (v := .agg [.nil, .nil, .int .i64 0]) rfl (res_tmp (v := eErr 83 r1) rfl (res_nil ?_))
      show Gives _ (.tuple [.agg [.nil, .nil, .int .i64 0], eErr 83 r1]) _
      exact gives_out hrg (VW.tupL (vl' (VW.aggL (vl' (VW.nilL) (vl' (VW.nilL) (vl' vr (vn))))) (vl' vr (vn)))) (hQ _ _ h)
    replace h := h.2 hb3
    refine Vc.skip' ?_
    refine qZ ?_
    obtain ⟨J, h, hJ⟩ := h
    refine Vc.join' (σ := ((Bool) × (Nat))) (fun y => J y.1) (fun y => envOf [(1, .int .i64 i), (6, .ptr rg 6 y.2 0 0), (8, .nilp), (9, eL (AV.int .i64) r), (31, .bool y.1)]) (fun y => stL S rg [(6, .arr 3 [.agg [.nil, .nil, .int .i64 0]], y.2)]) (fun y h => ?_) ?_
    · obtain ⟨x1, g19⟩ := y
      replace h := hJ x1 h
      show Vc _ _ _ _ (envOf [(1, .int .i64 i), (6, .ptr rg 6 g19 0 0), (8, .nilp), (9, eL (AV.int .i64) r), (31, .bool x1)]) (stL S rg [(6, .arr 3 [.agg [.nil, .nil, .int .i64 0]], g19)])
      refine Vc.cond' rfl (fun hb4 => ?_) (fun hb4 => ?_)
      · replace h := h.1 hb4
        refine qZ (rZ (wZ rg (o_build td25 zav25 bok25 szs25 sz25 (ps := []) rfl rfl (v := .agg [.nil, .nil, .int .i64 0]) rfl (wZ rg (o_iface (by rw [td83]; trivial) (v := .int .i64 10) rfl (wZ rg (o_storeB (atL (k := 6) rfl) sz25 (by decide) rfl (w := .agg [.nil, .nil, .int .i64 0]) rfl rfl rfl (v := .agg [.nil, .nil, .int .i64 0]) rfl setL (asZ (.iface 83 (.int .i64 10)) rfl (nZ ?_)))))))))
        refine Vc.ret' ?_
        refine res_cellA (atL (k := 6) rfl) sz25 (by decide) ag25 rfl rfl (v := .agg [.nil, .nil, .int .i64 0]) rfl (res_tmp (v := .iface 83 (.int .i64 10)) rfl (res_nil ?_))
        show Gives _ (.tuple [.agg [.nil, .nil, .int .i64 0], .iface 83 (.int .i64 10)]) _
        exact gives_out hrg (VW.tupL (vl' (VW.aggL (vl' (VW.nilL) (vl' (VW.nilL) (vl' vr (vn))))) (vl' vr (vn)))) (hQ _ _ h)
      replace h := h.2 hb4
      refine Vc.skip' ?_
      refine qZ ?_
      exact h.elim
    refine rZ ?_
    refine mvZ (.int .i64 i) rfl (wZ rg (o_lss rfl rfl (mvZ (.bool (decide (i < 0))) rfl ?_)))
    refine Wl.guard rfl rfl (fun hb5 => ?_) (fun hb5 => ?_)
    · replace h := h.2 hb5
      refine mvZ (.int .i64 i) rfl ?_
      refine Wl.guardT rfl rfl hb5 ?_
      refine wZ rg (o_faP td25 rfl rfl (by rw [sz22]; decide) rfl ?_)
      refine Wl.guardT rfl rfl hb5 ?_
      refine wZ rg (o_loadB1 (atL (k := 3) rfl) sz22 ag22 rfl rfl (v := eL (AV.int .i64) d.Order) rfl ?_)
      refine Wl.guardT rfl rfl hb5 ?_
      refine wZ rg (o_len td22 rfl ?_)
      refine Wl.guardT rfl rfl hb5 ?_
      refine wZ rg (o_geq rfl rfl (wZ rg (o_pickF rfl hb5 (v := .bool (decide ((d.Order.length : Int) ≤ i))) rfl (nZ ?_))))
      exact ⟨((decide ((d.Order.length : Int) ≤ i)), g4), (canon (fc vr (fc vr (fc vr (fc vr (fc vr (fn)))))) (sc rfl (sn))), h⟩
    replace h := h.1 hb5
    refine Wl.guardF rfl rfl hb5 rfl ?_
    refine Wl.guardF rfl rfl hb5 rfl ?_
    refine Wl.guardF rfl rfl hb5 rfl ?_
    refine Wl.guardF rfl rfl hb5 rfl ?_
    refine wZ rg (o_pickT rfl hb5 (v := .bool true) rfl (nZ ?_))
    exact ⟨(true, g4), (canon (fc vr (fc vr (fc vr (fc vr (fc vr (fn)))))) (sc rfl (sn))), h⟩
  replace h := h.2 (order, place, nodes, unique, memo) rfl
  refine Wl.eqS (sy_c (sy_c (sy_c (sy_c (sy_c (sy_c (sx_n) setL) setL) setL) setL) setL) setL) ?_
  refine mvZ (.tuple [.ptr rg 1600000 g6 0 0, eL (AV.int .i64) r, eErr 83 r1]) rfl (wZ rg (o_extract (v := .ptr rg 1600000 g6 0 0) rfl rfl rfl (wZ rg (o_extract (v := eL (AV.int .i64) r) rfl rfl rfl (wZ rg (o_extract (v := eErr 83 r1) rfl rfl rfl (asZ (.ptr rg 1600000 g6 0 0) rfl (asZ (eL (AV.int .i64) r) rfl (asZ (eErr 83 r1) rfl (nZ (qZ (qZ (rZ (mvZ (eErr 83 r1) rfl ?_))))))))))))))
  refine wZ rg (o_isnon td29 (E := 83) rfl rfl rfl (nZ ?_))
  refine Vc.cond' rfl (fun hb => ?_) (fun hb => ?_)
  · replace h := h.1 hb
    refine qZ (rZ (wZ rg (o_build td25 zav25 bok25 szs25 sz25 (ps := []) rfl rfl (v := .agg [.nil, .nil, .int .i64 0]) rfl (mvZ (eErr 83 r1) rfl (wZ rg (o_storeB (atL (k := 6) rfl) sz25 (by decide) rfl (w := .agg [.nil, .nil, .int .i64 0]) rfl rfl rfl (v := .agg [.nil, .nil, .int .i64 0]) rfl setL (asZ (eErr 83 r1) rfl (nZ ?_))))))))
    refine Vc.ret' ?_
    refine res_cellA (atL (k := 6) rfl) sz25 (by decide) ag25 rfl rfl (v := .agg [.nil, .nil, .int .i64 0]) rfl (res_tmp (v := eErr 83 r1) rfl (res_nil ?_))
    show Gives _ (.tuple [.agg [.nil, .nil, .int .i64 0], eErr 83 r1]) _
    exact gives_out hrg (VW.tupL (vl' (VW.aggL (vl' (VW.nilL) (vl' (VW.nilL) (vl' vr (vn))))) (vl' vr (vn)))) (hQ _ _ h)
  replace h := h.2 hb
  refine Vc.skip' ?_
  refine qZ ?_
  obtain ⟨J, h, hJ⟩ := h
  refine Vc.join' (σ := ((Bool) × (Nat × Nat × Nat × Nat × Nat × Nat × Nat))) (fun y => J y.1) (fun y => envOf [(1, .int .i64 i), (6, .ptr rg 6 y.2.1 0 0), (8, .ptr rg 1600000 y.2.2.1 0 0), (9, eL (AV.int .i64) r), (31, .bool y.1)]) (fun y => stL S rg [(6, .arr 3 [.agg [.nil, .nil, .int .i64 0]], y.2.1), (1600000, .arr 5 [.agg [.sl 1 rg 1600001 y.2.2.2.1 0 order.length, .sl 1 rg 1600002 y.2.2.2.2.1 0 place.length, .sl 3 rg 1600003 y.2.2.2.2.2.1 0 nodes.length, .map rg 1600004 y.2.2.2.2.2.2.1, .map rg 1600005 y.2.2.2.2.2.2.2]], y.2.2.1), (1600001, .arr 1 (List.map (AV.int .i64) order), y.2.2.2.1), (1600002, .arr 1 (List.map (AV.int .i64) place), y.2.2.2.2.1), (1600003, .arr 3 (List.map eDNode nodes), y.2.2.2.2.2.1), (1600004, mapE (AV.int .i64) (.many [.i64, .i64, .i64]) unique, y.2.2.2.2.2.2.1), (1600005, mapE (AV.int .i64) (.many [.i64, .i64, .i64]) memo, y.2.2.2.2.2.2.2)]) (fun y h => ?_) ?_
  · obtain ⟨x, ⟨g12, g13, g14, g15, g16, g17, g18⟩⟩ := y
    replace h := hJ x h
    show Vc _ _ _ _ (envOf [(1, .int .i64 i), (6, .ptr rg 6 g12 0 0), (8, .ptr rg 1600000 g13 0 0), (9, eL (AV.int .i64) r), (31, .bool x)]) (stL S rg [(6, .arr 3 [.agg [.nil, .nil, .int .i64 0]], g12), (1600000, .arr 5 [.agg [.sl 1 rg 1600001 g14 0 order.length, .sl 1 rg 1600002 g15 0 place.length, .sl 3 rg 1600003 g16 0 nodes.length, .map rg 1600004 g17, .map rg 1600005 g18]], g13), (1600001, .arr 1 (List.map (AV.int .i64) order), g14), (1600002, .arr 1 (List.map (AV.int .i64) place), g15), (1600003, .arr 3 (List.map eDNode nodes), g16), (1600004, mapE (AV.int .i64) (.many [.i64, .i64, .i64]) unique, g17), (1600005, mapE (AV.int .i64) (.many [.i64, .i64, .i64]) memo, g18)])
    refine Vc.cond' rfl (fun hb1 => ?_) (fun hb1 => ?_)
    · replace h := h.1 hb1
      refine qZ (rZ (wZ rg (o_build td25 zav25 bok25 szs25 sz25 (ps := []) rfl rfl (v := .agg [.nil, .nil, .int .i64 0]) rfl (wZ rg (o_iface (by rw [td83]; trivial) (v := .int .i64 10) rfl (wZ rg (o_storeB (atL (k := 6) rfl) sz25 (by decide) rfl (w := .agg [.nil, .nil, .int .i64 0]) rfl rfl rfl (v := .agg [.nil, .nil, .int .i64 0]) rfl setL (asZ (.iface 83 (.int .i64 10)) rfl (nZ ?_)))))))))
      refine Vc.ret' ?_
      refine res_cellA (atL (k := 6) rfl) sz25 (by decide) ag25 rfl rfl (v := .agg [.nil, .nil, .int .i64 0]) rfl (res_tmp (v := .iface 83 (.int .i64 10)) rfl (res_nil ?_))
      show Gives _ (.tuple [.agg [.nil, .nil, .int .i64 0], .iface 83 (.int .i64 10)]) _
      exact gives_out hrg (VW.tupL (vl' (VW.aggL (vl' (VW.nilL) (vl' (VW.nilL) (vl' vr (vn))))) (vl' vr (vn)))) (hQ _ _ h)
    replace h := h.2 hb1
    refine Vc.skip' ?_
    refine qZ ?_
    have hg := h.1
    replace h := h.2
    have hg1 := h.1
    replace h := h.2
    obtain ⟨u, u1, u2, r2, hc, h⟩ := h
    obtain ⟨r3, r4, hc1, h⟩ := h
    refine Vc.drawn' mixed rg (usOf [(9, wc (fun _ => .int .i64 r2) [(rg, 1600001), (rg, 1600002)] [(rg, 1600000), (rg, 1600003), (rg, 1600004), (rg, 1600005)] (fun gm => [(rg, 1600000, .arr 5 [.agg [.sl 1 rg 1600001 g14 0 order.length, .sl 1 rg 1600002 g15 0 place.length, .sl 3 rg 1600003 (gm 0) 0 u.length, .map rg 1600004 g17, .map rg 1600005 g18]], g13), (rg, 1600003, .arr 3 (List.map eDNode u), (gm 0)), (rg, 1600004, mapE (AV.int .i64) (.many [.i64, .i64, .i64]) u1, g17), (rg, 1600005, mapE (AV.int .i64) (.many [.i64, .i64, .i64]) u2, g18)])), (10, wc (fun _ => .tuple [eDiagram r3, eErr 83 r4]) [(rg, 1600000), (rg, 1600001), (rg, 1600002), (rg, 1600003), (rg, 1600004), (rg, 1600005)] [] (fun _ => []))]) (by kernel_rfl) ?_
    refine dP rfl rfl (o_move (v := .ptr rg 1600000 g13 0 0) rfl (dP rfl rfl (o_move (v := .ptr rg 1600000 g13 0 0) rfl (dP rfl rfl (o_move (v := eL (AV.int .i64) r) rfl (dP rfl rfl (o_idxL td22 sz3 (by decide) (fun _ => rfl) rfl rfl hg (dP rfl rfl (o_loadI1 sz3 ag3 rfl rfl (v := .int .i64 (at' r 0)) rfl (dP rfl rfl (o_move (v := .int .i64 i) rfl (dP rfl rfl (o_move (v := eL (AV.int .i64) r) rfl ?_)))))))))))))
    refine dP rfl rfl (o_idxL td22 sz3 (by decide) (fun _ => rfl) rfl rfl hg1 (dP rfl rfl (o_loadI1 sz3 ag3 rfl rfl (v := .int .i64 (at' r 1)) rfl ?_)))
    refine dCE (vs := [.ptr rg 1600000 g13 0 0, AV.int .i64 (at' r 0), AV.int .i64 i, AV.int .i64 (at' r 1)]) (V := fun _ => .int .i64 r2) (rd := [(rg, 1600001), (rg, 1600002)]) (wk := [(rg, 1600000), (rg, 1600003), (rg, 1600004), (rg, 1600005)]) (wr := fun gm => [(rg, 1600000, .arr 5 [.agg [.sl 1 rg 1600001 g14 0 order.length, .sl 1 rg 1600002 g15 0 place.length, .sl 3 rg 1600003 (gm 0) 0 u.length, .map rg 1600004 g17, .map rg 1600005 g18]], g13), (rg, 1600003, .arr 3 (List.map eDNode u), (gm 0)), (rg, 1600004, mapE (AV.int .i64) (.many [.i64, .i64, .i64]) u1, g17), (rg, 1600005, mapE (AV.int .i64) (.many [.i64, .i64, .i64]) u2, g18)]) rfl (vl' vr (vl' vr (vl' vr (vl' vr (vn))))) rfl (cfn) (by simp) (fun _ => rfl) (fun S' hA hB => ctrX (sx_c (ag hB 0 rfl (atL (k := 1600000) rfl)) (sx_c (ag hB 1 rfl (atL (k := 1600003) rfl)) (sx_c (ag hB 2 rfl (atL (k := 1600004) rfl)) (sx_c (ag hB 3 rfl (atL (k := 1600005) rfl)) (sx_c (ag hA 0 rfl (atL (k := 1600001) rfl)) (sx_c (ag hA 1 rfl (atL (k := 1600002) rfl)) (sx_n))))))) (decision_Table__Compose__e_ctr (dk_c (ni_c (ni_o rfl) (ni_c (ni_o rfl) (ni_c (ni_o rfl) (ni_c (ni_o rfl) (ni_c (ni_o rfl) (ni_n)))))) (dk_c (ni_c (ni_o rfl) (ni_c (ni_o rfl) (ni_c (ni_o rfl) (ni_c (ni_o rfl) (ni_n))))) (dk_c (ni_c (ni_o rfl) (ni_c (ni_o rfl) (ni_c (ni_o rfl) (ni_n)))) (dk_c (ni_c (ni_o rfl) (ni_c (ni_o rfl) (ni_n))) (dk_c (ni_c (ni_o rfl) (ni_n)) (dk_c (ni_n) (dk_n))))))) hc (fun _ _ _ _ h3 he => by obtain ⟨rfl, rfl, rfl, rfl⟩ := he; exact ⟨fun i => [h3].getD i 0, rfl, sm_c (sm_c (sm_c (sm_c (sx_c (ag hA 0 rfl (atL (k := 1600001) rfl)) (sx_c (ag hA 1 rfl (atL (k := 1600002) rfl)) (sx_n))))))⟩))) (fun gm => ?_)
    refine vdT.eqS (sa_c (sa_c (sa_c (sa_c (sa_n) setL) setL) setL) setL) ?_
    refine dCE (vs := [.ptr rg 1600000 g13 0 0, AV.int .i64 r2]) (V := fun _ => .tuple [eDiagram r3, eErr 83 r4]) (rd := [(rg, 1600000), (rg, 1600001), (rg, 1600002), (rg, 1600003), (rg, 1600004), (rg, 1600005)]) (wk := []) (wr := fun _ => []) rfl (vl' vr (vl' vr (vn))) rfl (cfo (by kernel_rfl) (cfn)) (by simp) (fun _ => rfl) (fun S' hA hB => ctrX (sx_c (ag hA 0 rfl (atL (k := 1600000) rfl)) (sx_c (ag hA 1 rfl (atL (k := 1600001) rfl)) (sx_c (ag hA 2 rfl (atL (k := 1600002) rfl)) (sx_c (ag hA 3 rfl (atL (k := 1600003) rfl)) (sx_c (ag hA 4 rfl (atL (k := 1600004) rfl)) (sx_c (ag hA 5 rfl (atL (k := 1600005) rfl)) (sx_n))))))) (algebra_result__e_ctr (dk_c (ni_c (ni_o rfl) (ni_c (ni_o rfl) (ni_c (ni_o rfl) (ni_c (ni_o rfl) (ni_c (ni_o rfl) (ni_n)))))) (dk_c (ni_c (ni_o rfl) (ni_c (ni_o rfl) (ni_c (ni_o rfl) (ni_c (ni_o rfl) (ni_n))))) (dk_c (ni_c (ni_o rfl) (ni_c (ni_o rfl) (ni_c (ni_o rfl) (ni_n)))) (dk_c (ni_c (ni_o rfl) (ni_c (ni_o rfl) (ni_n))) (dk_c (ni_c (ni_o rfl) (ni_n)) (dk_c (ni_n) (dk_n))))))) hc1 (fun _ _ he => by obtain ⟨rfl, rfl⟩ := he; exact ⟨fun i => ([] : List Nat).getD i 0, rfl, sx_c (ag hA 0 rfl (atL (k := 1600000) rfl)) (sx_c (ag hA 1 rfl (atL (k := 1600001) rfl)) (sx_c (ag hA 2 rfl (atL (k := 1600002) rfl)) (sx_c (ag hA 3 rfl (atL (k := 1600003) rfl)) (sx_c (ag hA 4 rfl (atL (k := 1600004) rfl)) (sx_c (ag hA 5 rfl (atL (k := 1600005) rfl)) (sx_n))))))⟩))) (fun _ => ?_)
    refine vdT.eqS (sa_n) ?_
    refine dP rfl rfl (o_extract (v := eDiagram r3) rfl rfl rfl (dP rfl rfl (o_extract (v := eErr 83 r4) rfl rfl rfl (dL (E := ([], [(rg, 6)])) rfl rfl (by simp) (cfo (by kernel_rfl) (cfo (by kernel_rfl) (cfn))) (o_storeB (atL (k := 6) rfl) sz25 (by decide) rfl (w := eDiagram r3) rfl rfl rfl (v := eDiagram r3) rfl setL (dP rfl rfl (o_assign (v := eErr 83 r4) rfl (dN ?_))))))))
    refine Vc.ret' ?_
    refine res_cellA (atL (k := 6) rfl) sz25 (by decide) ag25 rfl rfl (v := eDiagram r3) rfl (res_tmp (v := eErr 83 r4) rfl (res_nil ?_))
    show Gives _ (.tuple [eDiagram r3, eErr 83 r4]) _
    exact gives_out hrg (VW.tupL (vl' vr (vl' vr (vn)))) (hQ _ _ h)
  refine rZ ?_
  refine mvZ (.int .i64 i) rfl (wZ rg (o_lss rfl rfl (mvZ (.bool (decide (i < 0))) rfl ?_)))
  refine Wl.guard rfl rfl (fun hb2 => ?_) (fun hb2 => ?_)
  · replace h := h.2 hb2
    refine mvZ (.int .i64 i) rfl ?_
    refine Wl.guardT rfl rfl hb2 ?_
    refine wZ rg (o_faP td25 rfl rfl (by rw [sz22]; decide) rfl ?_)
    refine Wl.guardT rfl rfl hb2 ?_
    refine wZ rg (o_loadB1 (atL (k := 3) rfl) sz22 ag22 rfl rfl (v := eL (AV.int .i64) d.Order) rfl ?_)
    refine Wl.guardT rfl rfl hb2 ?_
    refine wZ rg (o_len td22 rfl ?_)
    refine Wl.guardT rfl rfl hb2 ?_
    refine wZ rg (o_geq rfl rfl (wZ rg (o_pickF rfl hb2 (v := .bool (decide ((d.Order.length : Int) ≤ i))) rfl (nZ ?_))))
    exact ⟨((decide ((d.Order.length : Int) ≤ i)), (g4, g6, g7, g8, g9, g10, g11)), (canon (fc vr (fc vr (fc vr (fc vr (fc vr (fn)))))) (sc rfl (sc rfl (sc rfl (sc rfl (sc rfl (sc rfl (sc rfl (sn))))))))), h⟩
  replace h := h.1 hb2
  refine Wl.guardF rfl rfl hb2 rfl ?_
  refine Wl.guardF rfl rfl hb2 rfl ?_
  refine Wl.guardF rfl rfl hb2 rfl ?_
  refine Wl.guardF rfl rfl hb2 rfl ?_
  refine wZ rg (o_pickT rfl hb2 (v := .bool true) rfl (nZ ?_))
  exact ⟨(true, (g4, g6, g7, g8, g9, g10, g11)), (canon (fc vr (fc vr (fc vr (fc vr (fc vr (fn)))))) (sc rfl (sc rfl (sc rfl (sc rfl (sc rfl (sc rfl (sc rfl (sn))))))))), h⟩
end Go.Proofs.Ytllegjdggcmgaaa
/- Walks of functions. Conditions: none. -/
namespace Go.Proofs.Ytllegjdggcmgaaa
open Go.Gg
set_option maxRecDepth 100000
theorem ref16_Choose_ctr {c : GDiagram} {a : GDiagram} {b : GDiagram} {Q : GDiagram → Prop} {S : St} {R : AV → St → Prop} (h : ref16_Choose_W c a b Q) (hQ : ∀ r1, Q r1 → R (eDiagram r1) S) :
    Ctr Try.prog 55 [eDiagram c, eDiagram a, eDiagram b] S R := by
  unfold ref16_Choose_W at h
  refine enterT Try.func55 rfl Try.ntmps55 Try.results55 (by kernel_rfl) (fun rg hrg => ?_)
  refine qZ (rZ (wZ rg (o_box (v := eDiagram c) rfl rfl (kk := 3) rfl (by decide) (fun g1 => (wZ rg (o_box (v := eDiagram a) rfl rfl (kk := 3) rfl (by decide) (fun g2 => (wZ rg (o_box (v := eDiagram b) rfl rfl (kk := 3) rfl (by decide) (fun g3 => (wZ rg (o_alloc zav25 ok25 (kk := 3) rfl (fun g4 => (nZ (qZ ?_)))))))))))))))
  obtain ⟨t1, hc, h⟩ := h
  obtain ⟨x, hc1, h⟩ := h
  obtain ⟨y1, hc2, h⟩ := h
  refine Vc.drawn' mixed rg (usOf [(1, pc (eL AV.bool t1)), (3, pc (eL AV.bool x)), (5, wc (fun gm => .sl 1 rg 16 (gm 0) 0 y1.length) [] [(rg, 16)] (fun gm => [(rg, 16, .arr 1 (List.map AV.bool y1), gm 0)]))]) (by kernel_rfl) ?_
  refine dL (E := ([(rg, 3)], [])) rfl rfl (by simp) (cfn) (o_loadBA (atL (k := 3) rfl) sz25 (by decide) ag25 rfl rfl (v := eDiagram c) rfl ?_)
  refine dC (vs := [eDiagram c]) rfl (vl' vr (vn)) (fun _ => ref15_Table_ctr hc (fun _ hr => ⟨by rw [hr], rfl⟩)) rfl ?_
  refine dL (E := ([(rg, 4)], [])) rfl rfl (by simp) (cfa (by simp [apartE]) (cfn)) (o_loadBA (atL (k := 4) rfl) sz25 (by decide) ag25 rfl rfl (v := eDiagram a) rfl ?_)
  refine dC (vs := [eDiagram a]) rfl (vl' vr (vn)) (fun _ => ref15_Table_ctr hc1 (fun _ hr => ⟨by rw [hr], rfl⟩)) rfl ?_
  refine dL (E := ([(rg, 5)], [])) rfl rfl (by simp) (cfa (by simp [apartE]) (cfa (by simp [apartE]) (cfn))) (o_loadBA (atL (k := 5) rfl) sz25 (by decide) ag25 rfl rfl (v := eDiagram b) rfl ?_)
  refine dCE (vs := [eDiagram b]) (V := fun gm => .sl 1 rg 16 (gm 0) 0 y1.length) (rd := []) (wk := [(rg, 16)]) (wr := fun gm => [(rg, 16, .arr 1 (List.map AV.bool y1), gm 0)]) rfl (vl' vr (vn)) rfl (cfo (by kernel_rfl) (cfo (by kernel_rfl) (cfo (by kernel_rfl) (cfn)))) (by simp) (fun _ => rfl) (fun S' _ _ => ref15_Table_ctrO rg 16 hc2 (fun _ g he => by obtain rfl := he; exact ⟨fun _ => g, rfl, rfl⟩)) (fun gm => ?_)
  refine vdT.eqS setL ?_
  refine dP rfl rfl (o_assign (v := eL AV.bool t1) rfl (dP rfl rfl (o_assign (v := eL AV.bool x) rfl (dP rfl rfl (o_assign (v := .sl 1 rg 16 (gm 0) 0 y1.length) rfl (dN (qZ (qZ (rZ (asZ (.int .i64 0) rfl (nZ ?_)))))))))))
  refine Vc.blk ?_
  obtain ⟨I, μ, h0, hI⟩ := h
  refine Vc.loop' (σ := (Int × (List Bool))) (fun y => I y) (fun y => μ y) (fun y => envOf [(4, .ptr rg 4 g2 0 0), (6, .ptr rg 6 g4 0 0), (7, eL AV.bool t1), (8, eL AV.bool x), (9, .sl 1 rg 16 (gm 0) 0 y.2.length), (10, .int .i64 y.1)]) (fun y => stL S rg [(4, .arr 3 [eDiagram a], g2), (6, .arr 3 [.agg [.nil, .nil, .int .i64 0]], g4), (16, .arr 1 (List.map AV.bool y.2), (gm 0))]) (0, y1) (canon (fc vr (fc vr (fc vr (fc vr (fc vr (fc vr (fn))))))) (sc rfl (sc rfl (sc rfl (sn))))) h0 (fun y h => ?_)
  obtain ⟨s, y2⟩ := y
  replace h := hI (s, y2) h
  show Vc _ _ _ _ (envOf [(4, .ptr rg 4 g2 0 0), (6, .ptr rg 6 g4 0 0), (7, eL AV.bool t1), (8, eL AV.bool x), (9, .sl 1 rg 16 (gm 0) 0 y2.length), (10, .int .i64 s)]) (stL S rg [(4, .arr 3 [eDiagram a], g2), (6, .arr 3 [.agg [.nil, .nil, .int .i64 0]], g4), (16, .arr 1 (List.map AV.bool y2), (gm 0))])
  refine qZ (qZ (rZ (mvZ (.int .i64 s) rfl (mvZ (eL AV.bool t1) rfl (wZ rg (o_len td139 rfl (wZ rg (o_lss rfl rfl (nZ ?_)))))))))
  refine Vc.cond' rfl (fun hb => ?_) (fun hb => ?_)
  · replace h := h.1 hb
    refine Vc.skip' ?_
    refine qZ ?_
    refine Vc.blk ?_
    refine qZ (rZ (mvZ (eL AV.bool t1) rfl (mvZ (.int .i64 s) rfl (wZ rg (o_idxL td139 sz4 (by decide) (fun _ => rfl) rfl rfl h.1 ?_)))))
    replace h := h.2
    refine wZ rg (o_loadI1 sz4 ag4 rfl rfl (v := .bool (at' t1 s)) rfl (nZ ?_))
    refine Vc.cond' rfl (fun hb1 => ?_) (fun hb1 => ?_)
    · replace h := h.1 hb1
      refine rZ ?_
      refine mvZ (.sl 1 rg 16 (gm 0) 0 y2.length) rfl (mvZ (.int .i64 s) rfl (mvZ (eL AV.bool x) rfl (mvZ (.int .i64 s) rfl (wZ rg (o_idxL td139 sz4 (by decide) (fun _ => rfl) rfl rfl h.1 ?_)))))
      replace h := h.2
      refine wZ rg (o_loadI1 sz4 ag4 rfl rfl (v := .bool (at' x s)) rfl (wZ rg (o_idxR0 td139 sz4 (by decide) rfl rfl h.1 ?_)))
      have hi := h.1
      replace h := h.2
      refine wZ rg (o_storeR1 (atL (k := 16) rfl) sz4 (by decide) (x' := (at' x s)) (fun _ => rfl) rfl rfl (lt_of hi (by first | rfl | omega | (simp only [go_sem] <;> omega))) rfl rfl setL (nZ (rZ (mvZ (.int .i64 s) rfl (wZ rg (o_addG rfl rfl h.1 ?_))))))
      replace h := h.2
      refine asZ (.int .i64 (s + 1)) rfl (nZ ?_)
      exact ⟨((s + 1), (set' y2 s (at' x s))), (canon (fc vr (fc vr (fc vr (fc vr (fc (VW.slen (by first | rfl | omega | (simp only [go_sem] <;> omega))) (fc vr (fn))))))) (sc rfl (sc rfl (sc rfl (sn))))), h⟩
    replace h := h.2 hb1
    refine Vc.skip' ?_
    refine rZ ?_
    refine mvZ (.int .i64 s) rfl (wZ rg (o_addG rfl rfl h.1 ?_))
    replace h := h.2
    refine asZ (.int .i64 (s + 1)) rfl (nZ ?_)
    exact ⟨((s + 1), y2), (canon (fc vr (fc vr (fc vr (fc vr (fc vr (fc vr (fn))))))) (sc rfl (sc rfl (sc rfl (sn))))), h⟩
  replace h := h.2 hb
  refine Vc.exit' (exB_self ?_)
  refine qZ (rZ (mvZ (.sl 1 rg 16 (gm 0) 0 y2.length) rfl (wZ rg (o_faP td25 rfl rfl (by rw [sz22]; decide) rfl (wZ rg (o_loadB1 (atL (k := 4) rfl) sz22 ag22 rfl rfl (v := eL (AV.int .i64) a.Order) rfl ?_))))))
  refine Wl.wk (canon_freeze (k := 16) (xs := List.map AV.bool y2) rfl (es := [(6, .ptr rg 6 g4 0 0), (34, eL AV.bool y2), (36, eL (AV.int .i64) a.Order)]) (fc vr (fc (frz_full rfl) (fc vr (fn)))) (m := [(6, .arr 3 [.agg [.nil, .nil, .int .i64 0]], g4)]) (sc rfl (sn))) ?_
  refine wZ rg (o_call (us := [eL AV.bool y2, eL (AV.int .i64) a.Order]) rfl (vl' vr (vl' vr (vn))) (ref15_Of_ctr h fun r h => (wZ rg (o_storeB (atL (k := 6) rfl) sz25 (by decide) rfl (w := eDiagram r) rfl rfl rfl (v := eDiagram r) rfl setL (nZ ?_)))))
  refine Vc.ret' ?_
  refine res_cellA (atL (k := 6) rfl) sz25 (by decide) ag25 rfl rfl (v := eDiagram r) rfl (res_nil ?_)
  show Gives _ (eDiagram r) _
  exact gives_out hrg (VW.refl _) (hQ _ h)
end Go.Proofs.Ytllegjdggcmgaaa
/- Walks of functions. Conditions: none. -/
namespace Go.Proofs.Ytllegjdggcmgaaa
open Go.Gg
set_option maxRecDepth 100000
theorem ref16_Compose_ctr {d : GDiagram} {i : Int} {g1 : GDiagram} {Q : GDiagram → Prop} {S : St} {R : AV → St → Prop} (h : ref16_Compose_W d i g1 Q) (hQ : ∀ r1, Q r1 → R (eDiagram r1) S) :
    Ctr Try.prog 56 [eDiagram d, AV.int .i64 i, eDiagram g1] S R := by
  unfold ref16_Compose_W at h
  refine enterT Try.func56 rfl Try.ntmps56 Try.results56 (by kernel_rfl) (fun rg hrg => ?_)
  refine qZ (rZ (wZ rg (o_box (v := eDiagram d) rfl rfl (kk := 3) rfl (by decide) (fun g2 => (wZ rg (o_box (v := eDiagram g1) rfl rfl (kk := 3) rfl (by decide) (fun g3 => (wZ rg (o_alloc zav25 ok25 (kk := 3) rfl (fun g4 => (nZ (qZ ?_))))))))))))
  obtain ⟨t1, hc, h⟩ := h
  obtain ⟨x, hc1, h⟩ := h
  refine Vc.drawn' mixed rg (usOf [(1, pc (eL AV.bool t1)), (3, pc (eL AV.bool x))]) (by kernel_rfl) ?_
  refine dL (E := ([(rg, 3)], [])) rfl rfl (by simp) (cfn) (o_loadBA (atL (k := 3) rfl) sz25 (by decide) ag25 rfl rfl (v := eDiagram d) rfl ?_)
  refine dC (vs := [eDiagram d]) rfl (vl' vr (vn)) (fun _ => ref15_Table_ctr hc (fun _ hr => ⟨by rw [hr], rfl⟩)) rfl ?_
  refine dL (E := ([(rg, 5)], [])) rfl rfl (by simp) (cfa (by simp [apartE]) (cfn)) (o_loadBA (atL (k := 5) rfl) sz25 (by decide) ag25 rfl rfl (v := eDiagram g1) rfl ?_)
  refine dC (vs := [eDiagram g1]) rfl (vl' vr (vn)) (fun _ => ref15_Table_ctr hc1 (fun _ hr => ⟨by rw [hr], rfl⟩)) rfl ?_
  refine dP rfl rfl (o_assign (v := eL AV.bool t1) rfl (dP rfl rfl (o_assign (v := eL AV.bool x) rfl (dN (qZ (rZ (asZ .nil rfl (nZ (qZ (qZ (rZ (asZ (.int .i64 0) rfl (nZ ?_)))))))))))))
  refine Vc.blk ?_
  refine Vc.mat 9 34 1 rfl (by decide) (fun g5 => ?_)
  obtain ⟨I, μ, h0, hI⟩ := h
  refine Vc.loop' (σ := ((Int × (List Bool)) × (Nat))) (fun y => I y.1) (fun y => μ y.1) (fun y => envOf [(1, .int .i64 i), (3, .ptr rg 3 g2 0 0), (6, .ptr rg 6 g4 0 0), (7, eL AV.bool t1), (8, eL AV.bool x), (9, .sl 1 rg 34 y.2 0 y.1.2.length), (10, .int .i64 y.1.1)]) (fun y => stL S rg [(3, .arr 3 [eDiagram d], g2), (6, .arr 3 [.agg [.nil, .nil, .int .i64 0]], g4), (34, .arr 1 (List.map AV.bool y.1.2), y.2)]) ((0, []), g5) (canon (fc vr (fc vr (fc vr (fc vr (fc vr (fc (VW.slen (by first | rfl | omega | (simp only [go_sem] <;> omega))) (fc vr (fn)))))))) (sc rfl (sc rfl (sc rfl (sn))))) h0 (fun y h => ?_)
  obtain ⟨⟨s, out⟩, g6⟩ := y
  replace h := hI (s, out) h
  show Vc _ _ _ _ (envOf [(1, .int .i64 i), (3, .ptr rg 3 g2 0 0), (6, .ptr rg 6 g4 0 0), (7, eL AV.bool t1), (8, eL AV.bool x), (9, .sl 1 rg 34 g6 0 out.length), (10, .int .i64 s)]) (stL S rg [(3, .arr 3 [eDiagram d], g2), (6, .arr 3 [.agg [.nil, .nil, .int .i64 0]], g4), (34, .arr 1 (List.map AV.bool out), g6)])
  refine qZ (qZ (rZ (mvZ (.int .i64 s) rfl (mvZ (eL AV.bool t1) rfl (wZ rg (o_len td139 rfl (wZ rg (o_lss rfl rfl (nZ ?_)))))))))
  refine Vc.cond' rfl (fun hb => ?_) (fun hb => ?_)
  · replace h := h.1 hb
    refine Vc.skip' ?_
    refine qZ ?_
    refine Vc.blk ?_
    refine qZ (rZ (mvZ (eL AV.bool x) rfl (mvZ (.int .i64 s) rfl (wZ rg (o_idxL td139 sz4 (by decide) (fun _ => rfl) rfl rfl h.1 ?_)))))
    replace h := h.2
    refine wZ rg (o_loadI1 sz4 ag4 rfl rfl (v := .bool (at' x s)) rfl (nZ ?_))
    refine Vc.cond' rfl (fun hb1 => ?_) (fun hb1 => ?_)
    · replace h := h.1 hb1
      refine rZ ?_
      refine mvZ (.sl 1 rg 34 g6 0 out.length) rfl (mvZ (eL AV.bool t1) rfl (mvZ (.int .i64 s) rfl (mvZ (.int .i64 i) rfl (wZ rg (o_shlG rfl rfl h.1 ?_)))))
      replace h := h.2
      refine wZ rg (o_or rfl rfl (wZ rg (o_idxL td139 sz4 (by decide) (fun _ => rfl) rfl rfl h.1 ?_)))
      replace h := h.2
      refine wZ rg (o_loadI1 sz4 ag4 rfl rfl (v := .bool (at' t1 (bits .or .i64 s (1 * 2 ^ (Int.toNat i))))) rfl (wZ rg (o_bslice td139 ok4 zav4 (es := [.bool (at' t1 (bits .or .i64 s (1 * 2 ^ (Int.toNat i))))]) rfl (kk := 1) rfl rfl rfl rfl rfl rfl (fun g7 => ?_))))
      refine wZ rg (o_appR td139 bts4 ok4 zav4 (es := out) (xs := [(at' t1 (bits .or .i64 s (1 * 2 ^ (Int.toNat i))))]) (enc := AV.bool) (atL (k := 34) rfl) (by first | rfl | omega | (simp only [go_sem] <;> omega)) (view_rowE (atL (k := 33) rfl) (by first | rfl | omega | (simp only [go_sem] <;> omega))) (kk := 1) rfl rfl (fun _ => rfl) (fun _ => rfl) h.1 rfl (fun _ => setL) (fun g8 => ?_))
      replace h := h.2
      refine asZ (.sl 1 rg 34 g8 0 ((out ++ [(at' t1 (bits .or .i64 s (1 * 2 ^ (Int.toNat i))))]).length)) rfl (nZ (rZ (mvZ (.int .i64 s) rfl (wZ rg (o_addG rfl rfl h.1 ?_)))))
      replace h := h.2
      refine asZ (.int .i64 (s + 1)) rfl (nZ ?_)
      exact ⟨(((s + 1), (out ++ [(at' t1 (bits .or .i64 s (1 * 2 ^ (Int.toNat i))))])), g8), (canon (fc vr (fc vr (fc vr (fc vr (fc vr (fc vr (fc vr (fn)))))))) (sc rfl (sc rfl (sc rfl (sn))))), h⟩
    replace h := h.2 hb1
    refine rZ ?_
    refine mvZ (.sl 1 rg 34 g6 0 out.length) rfl (mvZ (eL AV.bool t1) rfl (mvZ (.int .i64 s) rfl (mvZ (.int .i64 i) rfl (wZ rg (o_shlG rfl rfl h.1 ?_)))))
    replace h := h.2
    refine wZ rg (o_andNot rfl rfl (wZ rg (o_idxL td139 sz4 (by decide) (fun _ => rfl) rfl rfl h.1 ?_)))
    replace h := h.2
    refine wZ rg (o_loadI1 sz4 ag4 rfl rfl (v := .bool (at' t1 (bits .andNot .i64 s (1 * 2 ^ (Int.toNat i))))) rfl (wZ rg (o_bslice td139 ok4 zav4 (es := [.bool (at' t1 (bits .andNot .i64 s (1 * 2 ^ (Int.toNat i))))]) rfl (kk := 1) rfl rfl rfl rfl rfl rfl (fun g9 => ?_))))
    refine wZ rg (o_appR td139 bts4 ok4 zav4 (es := out) (xs := [(at' t1 (bits .andNot .i64 s (1 * 2 ^ (Int.toNat i))))]) (enc := AV.bool) (atL (k := 34) rfl) (by first | rfl | omega | (simp only [go_sem] <;> omega)) (view_rowE (atL (k := 43) rfl) (by first | rfl | omega | (simp only [go_sem] <;> omega))) (kk := 1) rfl rfl (fun _ => rfl) (fun _ => rfl) h.1 rfl (fun _ => setL) (fun g10 => ?_))
    replace h := h.2
    refine asZ (.sl 1 rg 34 g10 0 ((out ++ [(at' t1 (bits .andNot .i64 s (1 * 2 ^ (Int.toNat i))))]).length)) rfl (nZ (rZ (mvZ (.int .i64 s) rfl (wZ rg (o_addG rfl rfl h.1 ?_)))))
    replace h := h.2
    refine asZ (.int .i64 (s + 1)) rfl (nZ ?_)
    exact ⟨(((s + 1), (out ++ [(at' t1 (bits .andNot .i64 s (1 * 2 ^ (Int.toNat i))))])), g10), (canon (fc vr (fc vr (fc vr (fc vr (fc vr (fc vr (fc vr (fn)))))))) (sc rfl (sc rfl (sc rfl (sn))))), h⟩
  replace h := h.2 hb
  refine Vc.exit' (exB_self ?_)
  refine qZ (rZ (mvZ (.sl 1 rg 34 g6 0 out.length) rfl (wZ rg (o_faP td25 rfl rfl (by rw [sz22]; decide) rfl (wZ rg (o_loadB1 (atL (k := 3) rfl) sz22 ag22 rfl rfl (v := eL (AV.int .i64) d.Order) rfl ?_))))))
  refine Wl.wk (canon_freeze (k := 34) (xs := List.map AV.bool out) rfl (es := [(6, .ptr rg 6 g4 0 0), (45, eL AV.bool out), (47, eL (AV.int .i64) d.Order)]) (fc vr (fc (frz_full rfl) (fc vr (fn)))) (m := [(6, .arr 3 [.agg [.nil, .nil, .int .i64 0]], g4)]) (sc rfl (sn))) ?_
  refine wZ rg (o_call (us := [eL AV.bool out, eL (AV.int .i64) d.Order]) rfl (vl' vr (vl' vr (vn))) (ref15_Of_ctr h fun r h => (wZ rg (o_storeB (atL (k := 6) rfl) sz25 (by decide) rfl (w := eDiagram r) rfl rfl rfl (v := eDiagram r) rfl setL (nZ ?_)))))
  refine Vc.ret' ?_
  refine res_cellA (atL (k := 6) rfl) sz25 (by decide) ag25 rfl rfl (v := eDiagram r) rfl (res_nil ?_)
  show Gives _ (eDiagram r) _
  exact gives_out hrg (VW.refl _) (hQ _ h)
end Go.Proofs.Ytllegjdggcmgaaa
