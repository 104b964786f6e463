/- Walks of functions. Conditions: none. -/
import Derived.Test.YtiamkdpljeemkaaWa
import Derived.Test.YtiamkdpljeemkaaGgTy
import Derived.Test.YtiamkdpljeemkaaGd
import Derived.Test.YtiamkdpljeemkaaK3
import Derived.Test.YtiamkdpljeemkaaK1
import Derived.Test.YtiamkdpljeemkaaK2
/- Walks of functions. Conditions: none. -/
namespace Go.Proofs.Ytiamkdpljeemkaa
open Go.Gg
set_option maxRecDepth 100000
theorem ref15_add__e_ctr {fu : Nat} : ∀ {Order : List Int} {Root : Int} {table : List Bool} {level : Int} {state : Int} {u : List GDNode} {q0 k0 g0 : Nat} (_hdk : DK [(q0, k0)]) {Q : List GDNode → List Int → Int → Int → Prop} {S : St} {R : AV → St → Prop} (_h : ref15_add__e_W fu Order Root table level state u Q) (_hQ : ∀ r1 r2 r3 r4, ∀ h0, Q r1 r2 r3 r4 → R (.tuple [.agg [eL (AV.int .i64) r2, .sl 3 q0 k0 h0 0 r1.length, .int .i64 r3], AV.int .i64 r4]) (stX S [(q0, k0, .arr 3 (List.map eDNode r1), h0)])),
    Ctr Try.prog 139 [.agg [eL (AV.int .i64) Order, .sl 3 q0 k0 g0 0 u.length, .int .i64 Root], eL AV.bool table, AV.int .i64 level, AV.int .i64 state] (stX S [(q0, k0, .arr 3 (List.map eDNode u), g0)]) R := by
  induction fu with
  | zero =>
    intro Order Root table level state u q0 k0 g0 hdk Q S R h hQ
    exact False.elim h
  | succ fu ih =>
  intro Order Root table level state u q0 k0 g0 hdk Q S R h hQ
  rw [ref15_add__e_W] at h
  refine enterT Try.func139 rfl Try.ntmps139 Try.results139 (by kernel_rfl) (fun rg hrg => ?_)
  have hdx : DX [(q0, k0, .arr 3 (List.map eDNode u), g0)] := hdk
  have hfr := fun X' e => fresh_set (S := S) (rg := rg) (X := [(q0, k0, .arr 3 (List.map eDNode u), g0)]) (X' := X') e hrg
  have hne0 := fresh_ne hdx hrg 0 rfl
  refine qZ (rZ (wZ rg (o_box (v := .agg [eL (AV.int .i64) Order, .sl 3 q0 k0 g0 0 u.length, .int .i64 Root]) rfl rfl (kk := 3) rfl (by decide) (fun g1 => (wZ rg (o_alloc zav30 ok30 (kk := 3) rfl (fun g2 => (asZ (.int .i64 0) rfl (nZ (qZ (qZ (rZ (mvZ (.int .i64 level) rfl (wZ rg (o_faP td30 rfl rfl (by rw [sz25]; decide) rfl ?_)))))))))))))))
  refine wZ rg (o_loadB1 (atL (k := 4) rfl) sz25 ag25 rfl rfl (v := eL (AV.int .i64) Order) rfl (wZ rg (o_len td25 rfl (wZ rg (o_eql rfl rfl (nZ ?_))))))
  refine Vc.cond' rfl (fun hb => ?_) (fun hb => ?_)
  · replace h := h.1 hb
    refine qZ (qZ (rZ (mvZ (eL AV.bool table) rfl (mvZ (.int .i64 state) rfl (wZ rg (o_idxL td110 sz4 (by decide) (fun _ => rfl) rfl rfl h.1 ?_))))))
    replace h := h.2
    refine wZ rg (o_loadI1 sz4 ag4 rfl rfl (v := .bool (at' table state)) rfl (nZ ?_))
    refine Vc.cond' rfl (fun hb1 => ?_) (fun hb1 => ?_)
    · replace h := h.1 hb1
      refine qZ (rZ (wZ rg (o_loadBA (atL (k := 4) rfl) sz30 (by decide) ag30 rfl rfl (v := .agg [eL (AV.int .i64) Order, .sl 3 q0 k0 g0 0 u.length, .int .i64 Root]) rfl (wZ rg (o_storeB (atL (k := 8) rfl) sz30 (by decide) rfl (w := .agg [eL (AV.int .i64) Order, .sl 3 q0 k0 g0 0 u.length, .int .i64 Root]) rfl rfl rfl (v := .agg [eL (AV.int .i64) Order, .sl 3 q0 k0 g0 0 u.length, .int .i64 Root]) rfl setL ?_)))))
      refine asZ (.int .i64 1) rfl (nZ ?_)
      refine Vc.ret' ?_
      refine res_cellA (atL (k := 8) rfl) sz30 (by decide) ag30 rfl rfl (v := .agg [eL (AV.int .i64) Order, .sl 3 q0 k0 g0 0 u.length, .int .i64 Root]) rfl (res_tmp (v := .int .i64 1) rfl (res_nil ?_))
      show Gives _ (.tuple [.agg [eL (AV.int .i64) Order, .sl 3 q0 k0 g0 0 u.length, .int .i64 Root], .int .i64 1]) _
      exact gives_out (hfr _ rfl) (VW.tupL (vl' vr (vl' vr (vn)))) (hQ _ _ _ _ _ h)
    replace h := h.2 hb1
    refine Vc.skip' ?_
    refine qZ (rZ (wZ rg (o_loadBA (atL (k := 4) rfl) sz30 (by decide) ag30 rfl rfl (v := .agg [eL (AV.int .i64) Order, .sl 3 q0 k0 g0 0 u.length, .int .i64 Root]) rfl (wZ rg (o_storeB (atL (k := 8) rfl) sz30 (by decide) rfl (w := .agg [eL (AV.int .i64) Order, .sl 3 q0 k0 g0 0 u.length, .int .i64 Root]) rfl rfl rfl (v := .agg [eL (AV.int .i64) Order, .sl 3 q0 k0 g0 0 u.length, .int .i64 Root]) rfl setL ?_)))))
    refine asZ (.int .i64 0) rfl (nZ ?_)
    refine Vc.ret' ?_
    refine res_cellA (atL (k := 8) rfl) sz30 (by decide) ag30 rfl rfl (v := .agg [eL (AV.int .i64) Order, .sl 3 q0 k0 g0 0 u.length, .int .i64 Root]) rfl (res_tmp (v := .int .i64 0) rfl (res_nil ?_))
    show Gives _ (.tuple [.agg [eL (AV.int .i64) Order, .sl 3 q0 k0 g0 0 u.length, .int .i64 Root], .int .i64 0]) _
    exact gives_out (hfr _ rfl) (VW.tupL (vl' vr (vl' vr (vn)))) (hQ _ _ _ _ _ h)
  replace h := h.2 hb
  refine Vc.skip' ?_
  refine qZ (rZ (wZ rg (o_loadBA (atL (k := 4) rfl) sz30 (by decide) ag30 rfl rfl (v := .agg [eL (AV.int .i64) Order, .sl 3 q0 k0 g0 0 u.length, .int .i64 Root]) rfl (mvZ (eL AV.bool table) rfl (mvZ (.int .i64 level) rfl (wZ rg (o_addG rfl rfl h.1 ?_)))))))
  replace h := h.2
  refine mvZ (.int .i64 state) rfl (wZ rg (o_call (us := [.agg [eL (AV.int .i64) Order, .sl 3 q0 k0 g0 0 u.length, .int .i64 Root], eL AV.bool table, AV.int .i64 (level + 1), AV.int .i64 state]) rfl (vl' vr (vl' vr (vl' vr (vl' vr (vn))))) (ctrX (sx_c (atX hne0 hdx 0 rfl) (sx_n)) (ih (dk_c (ni_n) (dk_n)) h fun u1 r r1 r2 g3 h => ?_))))
  refine Wl.eqS (sy_c (sx_n) (setX hne0 hdx 0 rfl rfl)) ?_
  refine mvZ (.tuple [.agg [eL (AV.int .i64) r, .sl 3 q0 k0 g3 0 u1.length, .int .i64 r1], .int .i64 r2]) rfl (wZ rg (o_extract (v := .agg [eL (AV.int .i64) r, .sl 3 q0 k0 g3 0 u1.length, .int .i64 r1]) rfl rfl rfl (wZ rg (o_extract (v := .int .i64 r2) rfl rfl rfl ?_))))
  refine wZ rg (o_storeB (atL (k := 4) rfl) sz30 (by decide) rfl (w := .agg [eL (AV.int .i64) r, .sl 3 q0 k0 g3 0 u1.length, .int .i64 r1]) rfl rfl rfl (v := .agg [eL (AV.int .i64) r, .sl 3 q0 k0 g3 0 u1.length, .int .i64 r1]) rfl setL (asZ (.int .i64 r2) rfl (nZ (qZ ?_))))
  have hg := h.1
  replace h := h.2
  have hg1 := h.1
  replace h := h.2
  have hg2 := h.1
  replace h := h.2
  obtain ⟨u2, r3, r4, r5, hc, h⟩ := h
  refine Vc.drawn' mixed rg (usOf [(12, wc (fun gm => .tuple [.agg [eL (AV.int .i64) r3, .sl 3 q0 k0 (gm 0) 0 u2.length, .int .i64 r4], .int .i64 r5]) [] [(q0, k0)] (fun gm => [(q0, k0, .arr 3 (List.map eDNode u2), (gm 0))]))]) (by kernel_rfl) ?_
  refine dL (E := ([(rg, 4)], [])) rfl rfl (by simp) (cfn) (o_loadBA (atL (k := 4) rfl) sz30 (by decide) ag30 rfl rfl (v := .agg [eL (AV.int .i64) r, .sl 3 q0 k0 g3 0 u1.length, .int .i64 r1]) rfl (dP rfl rfl (o_move (v := eL AV.bool table) rfl (dP rfl rfl (o_move (v := .int .i64 level) rfl (dP rfl rfl (o_addG rfl rfl hg (dP rfl rfl (o_move (v := .int .i64 state) rfl ?_)))))))))
  refine dP rfl rfl (o_faP td30 rfl rfl (by rw [sz25]; decide) rfl (dL (E := ([(rg, 4)], [])) rfl rfl (by simp) (cfa (by simp [apartE]) (cfn)) (o_loadB1 (atL (k := 4) rfl) sz25 ag25 rfl rfl (v := eL (AV.int .i64) r) rfl (dP rfl rfl (o_move (v := .int .i64 level) rfl (dP rfl rfl (o_idxL td25 sz3 (by decide) (fun _ => rfl) rfl rfl hg1 ?_)))))))
  refine dP rfl rfl (o_loadI1 sz3 ag3 rfl rfl (v := .int .i64 (at' r level)) rfl (dP rfl rfl (o_shlG rfl rfl hg2 (dP rfl rfl (o_or rfl rfl ?_)))))
  refine dCE (vs := [.agg [eL (AV.int .i64) r, .sl 3 q0 k0 g3 0 u1.length, .int .i64 r1], eL AV.bool table, AV.int .i64 (level + 1), AV.int .i64 (bits .or .i64 state (1 * 2 ^ (Int.toNat (at' r level))))]) (V := fun gm => .tuple [.agg [eL (AV.int .i64) r3, .sl 3 q0 k0 (gm 0) 0 u2.length, .int .i64 r4], .int .i64 r5]) (rd := []) (wk := [(q0, k0)]) (wr := fun gm => [(q0, k0, .arr 3 (List.map eDNode u2), (gm 0))]) rfl (vl' vr (vl' vr (vl' vr (vl' vr (vn))))) rfl (cfo (by kernel_rfl) (cfo (by kernel_rfl) (cfn))) (by simp) (fun _ => rfl) (fun S' hA hB => ctrX (sx_c (ag hB 0 rfl (atX hne0 hdx 0 rfl)) (sx_n)) (ih (dk_c (ni_n) (dk_n)) hc (fun _ _ _ _ h0 he => by obtain ⟨rfl, rfl, rfl, rfl⟩ := he; exact ⟨fun i => [h0].getD i 0, rfl, sm_c (sx_n)⟩))) (fun gm => ?_)
  refine vdT.eqS (sa_c (sa_n) (setX hne0 hdx 0 rfl rfl)) ?_
  refine dP rfl rfl (o_move (v := .tuple [.agg [eL (AV.int .i64) r3, .sl 3 q0 k0 (gm 0) 0 u2.length, .int .i64 r4], .int .i64 r5]) rfl (dP rfl rfl (o_extract (v := .agg [eL (AV.int .i64) r3, .sl 3 q0 k0 (gm 0) 0 u2.length, .int .i64 r4]) rfl rfl rfl (dP rfl rfl (o_extract (v := .int .i64 r5) rfl rfl rfl ?_)))))
  refine dL (E := ([], [(rg, 4)])) rfl rfl (by simp) (cfo (by kernel_rfl) (cfo (by kernel_rfl) (cfo (by kernel_rfl) (cfn)))) (o_storeB (atL (k := 4) rfl) sz30 (by decide) rfl (w := .agg [eL (AV.int .i64) r3, .sl 3 q0 k0 (gm 0) 0 u2.length, .int .i64 r4]) rfl rfl rfl (v := .agg [eL (AV.int .i64) r3, .sl 3 q0 k0 (gm 0) 0 u2.length, .int .i64 r4]) rfl setL (dP rfl rfl (o_assign (v := .int .i64 r5) rfl (dN ?_))))
  refine qZ (qZ (rZ (mvZ (.int .i64 r2) rfl (mvZ (.int .i64 r5) rfl (wZ rg (o_eql rfl rfl (nZ ?_)))))))
  refine Vc.cond' rfl (fun hb2 => ?_) (fun hb2 => ?_)
  · replace h := h.1 hb2
    refine qZ (rZ (wZ rg (o_loadBA (atL (k := 4) rfl) sz30 (by decide) ag30 rfl rfl (v := .agg [eL (AV.int .i64) r3, .sl 3 q0 k0 (gm 0) 0 u2.length, .int .i64 r4]) rfl (mvZ (.int .i64 r2) rfl ?_))))
    refine wZ rg (o_storeB (atL (k := 8) rfl) sz30 (by decide) rfl (w := .agg [eL (AV.int .i64) r3, .sl 3 q0 k0 (gm 0) 0 u2.length, .int .i64 r4]) rfl rfl rfl (v := .agg [eL (AV.int .i64) r3, .sl 3 q0 k0 (gm 0) 0 u2.length, .int .i64 r4]) rfl setL (asZ (.int .i64 r2) rfl (nZ ?_)))
    refine Vc.ret' ?_
    refine res_cellA (atL (k := 8) rfl) sz30 (by decide) ag30 rfl rfl (v := .agg [eL (AV.int .i64) r3, .sl 3 q0 k0 (gm 0) 0 u2.length, .int .i64 r4]) rfl (res_tmp (v := .int .i64 r2) rfl (res_nil ?_))
    show Gives _ (.tuple [.agg [eL (AV.int .i64) r3, .sl 3 q0 k0 (gm 0) 0 u2.length, .int .i64 r4], .int .i64 r2]) _
    exact gives_out (hfr _ rfl) (VW.tupL (vl' vr (vl' vr (vn)))) (hQ _ _ _ _ _ h)
  replace h := h.2 hb2
  refine Vc.skip' ?_
  refine qZ (rZ (wZ rg (o_faP td30 rfl rfl (by rw [sz25]; decide) rfl (wZ rg (o_loadB1 (atL (k := 4) rfl) sz25 ag25 rfl rfl (v := eL (AV.int .i64) r3) rfl (mvZ (.int .i64 level) rfl (wZ rg (o_idxL td25 sz3 (by decide) (fun _ => rfl) rfl rfl h.1 ?_))))))))
  replace h := h.2
  refine wZ rg (o_loadI1 sz3 ag3 rfl rfl (v := .int .i64 (at' r3 level)) rfl (mvZ (.int .i64 r2) rfl (mvZ (.int .i64 r5) rfl (wZ rg (o_build td97 zav97 bok97 szs97 sz97 (ps := [(0, .int .i64 (at' r3 level)), (1, .int .i64 r2), (2, .int .i64 r5)]) rfl rfl (v := .agg [.int .i64 (at' r3 level), .int .i64 r2, .int .i64 r5]) rfl (wZ rg (o_alloc zav97 ok97 (kk := 3) rfl (fun g4 => ?_))))))))
  refine wZ rg (o_storeB (atL (k := 12) rfl) sz97 (by decide) rfl (w := .agg [.int .i64 (at' r3 level), .int .i64 r2, .int .i64 r5]) rfl rfl rfl (v := .agg [.int .i64 (at' r3 level), .int .i64 r2, .int .i64 r5]) rfl setL (nZ (qZ (qZ (rZ (asZ (.int .i64 0) rfl (nZ ?_)))))))
  refine Vc.blk ?_
  obtain ⟨I, μ, h0, hI⟩ := h
  refine Vc.loop' (σ := (Int)) (fun y => I y) (fun y => μ y) (fun y => envOf [(4, .ptr rg 4 g1 0 0), (8, .ptr rg 8 g2 0 0), (12, .ptr rg 12 g4 0 0), (13, .int .i64 y)]) (fun y => stL (stX S [(q0, k0, .arr 3 (List.map eDNode u2), (gm 0))]) rg [(4, .arr 3 [.agg [eL (AV.int .i64) r3, .sl 3 q0 k0 (gm 0) 0 u2.length, .int .i64 r4]], g1), (8, .arr 3 [.agg [.nil, .nil, .int .i64 0]], g2), (12, .arr 3 [.agg [.int .i64 (at' r3 level), .int .i64 r2, .int .i64 r5]], g4)]) 0 (canon (fc vr (fc vr (fc vr (fc vr (fn))))) (sc rfl (sc rfl (sc rfl (sn))))) h0 (fun i h => ?_)
  replace h := hI i h
  show Vc _ _ _ _ (envOf [(4, .ptr rg 4 g1 0 0), (8, .ptr rg 8 g2 0 0), (12, .ptr rg 12 g4 0 0), (13, .int .i64 i)]) (stL (stX S [(q0, k0, .arr 3 (List.map eDNode u2), (gm 0))]) rg [(4, .arr 3 [.agg [eL (AV.int .i64) r3, .sl 3 q0 k0 (gm 0) 0 u2.length, .int .i64 r4]], g1), (8, .arr 3 [.agg [.nil, .nil, .int .i64 0]], g2), (12, .arr 3 [.agg [.int .i64 (at' r3 level), .int .i64 r2, .int .i64 r5]], g4)])
  refine qZ (qZ (rZ (mvZ (.int .i64 i) rfl (wZ rg (o_faP td30 rfl rfl (by rw [sz28]; decide) rfl (wZ rg (o_loadB1 (atL (k := 4) rfl) sz28 ag28 rfl rfl (v := .sl 3 q0 k0 (gm 0) 0 u2.length) rfl (wZ rg (o_lenR td28 rfl (wZ rg (o_lss rfl rfl (nZ ?_))))))))))))
  refine Vc.cond' rfl (fun hb3 => ?_) (fun hb3 => ?_)
  · replace h := h.1 hb3
    refine Vc.skip' ?_
    refine qZ ?_
    refine Vc.blk ?_
    refine qZ ?_
    have hi := h.1
    replace h := h.2
    refine Vc.drawn' mixed rg (fun _ => jcr2) (by kernel_rfl) ?_
    refine dP rfl rfl (o_faP td30 rfl rfl (by rw [sz28]; decide) rfl (dL (E := ([(rg, 4)], [])) rfl rfl (by simp) (cfn) (o_loadB1 (atL (k := 4) rfl) sz28 ag28 rfl rfl (v := .sl 3 q0 k0 (gm 0) 0 u2.length) rfl (dP rfl rfl (o_move (v := .int .i64 i) rfl (dP rfl rfl (o_idxR0 td28 sz97 (by decide) rfl rfl hi ?_)))))))
    refine dL (E := ([(q0, k0)], [])) rfl rfl (by simp) (cfo (by kernel_rfl) (cfn)) (o_loadRA (atX hne0 hdx 0 rfl) sz97 (by decide) ag97 rfl (lt_of hi (by first | rfl | omega | (simp only [go_sem] <;> omega))) rfl (v := eDNode (at' u2 i)) rfl ?_)
    refine dL (E := ([(rg, 12)], [])) rfl rfl (by simp) (cfa (by simp [apartE]) (cfa (by simp [apartE]) (cfn))) (o_loadBA (atL (k := 12) rfl) sz97 (by decide) ag97 rfl rfl (v := .agg [.int .i64 (at' r3 level), .int .i64 r2, .int .i64 r5]) rfl (dP rfl rfl (o_eqlS ksh97 rfl rfl rfl rfl (dN ?_))))
    refine Vc.cond' rfl (fun hb4 => ?_) (fun hb4 => ?_)
    · replace h := h.1 hb4
      refine qZ (rZ (wZ rg (o_loadBA (atL (k := 4) rfl) sz30 (by decide) ag30 rfl rfl (v := .agg [eL (AV.int .i64) r3, .sl 3 q0 k0 (gm 0) 0 u2.length, .int .i64 r4]) rfl (mvZ (.int .i64 i) rfl (wZ rg (o_addG rfl rfl h.1 ?_))))))
      replace h := h.2
      refine wZ rg (o_storeB (atL (k := 8) rfl) sz30 (by decide) rfl (w := .agg [eL (AV.int .i64) r3, .sl 3 q0 k0 (gm 0) 0 u2.length, .int .i64 r4]) rfl rfl rfl (v := .agg [eL (AV.int .i64) r3, .sl 3 q0 k0 (gm 0) 0 u2.length, .int .i64 r4]) rfl setL (asZ (.int .i64 (2 + i)) rfl (nZ ?_)))
      refine Vc.ret' ?_
      refine res_cellA (atL (k := 8) rfl) sz30 (by decide) ag30 rfl rfl (v := .agg [eL (AV.int .i64) r3, .sl 3 q0 k0 (gm 0) 0 u2.length, .int .i64 r4]) rfl (res_tmp (v := .int .i64 (2 + i)) rfl (res_nil ?_))
      show Gives _ (.tuple [.agg [eL (AV.int .i64) r3, .sl 3 q0 k0 (gm 0) 0 u2.length, .int .i64 r4], .int .i64 (2 + i)]) _
      exact gives_out (hfr _ rfl) (VW.tupL (vl' vr (vl' vr (vn)))) (hQ _ _ _ _ _ h)
    replace h := h.2 hb4
    refine Vc.skip' ?_
    refine rZ ?_
    refine mvZ (.int .i64 i) rfl (wZ rg (o_addG rfl rfl h.1 ?_))
    replace h := h.2
    refine asZ (.int .i64 (i + 1)) rfl (nZ ?_)
    exact ⟨(i + 1), (canon (fc vr (fc vr (fc vr (fc vr (fn))))) (sc rfl (sc rfl (sc rfl (sn))))), h⟩
  replace h := h.2 hb3
  refine Vc.exit' (exB_self ?_)
  refine qZ (rZ (wZ rg (o_faP td30 rfl rfl (by rw [sz28]; decide) rfl (wZ rg (o_loadB1 (atL (k := 4) rfl) sz28 ag28 rfl rfl (v := .sl 3 q0 k0 (gm 0) 0 u2.length) rfl (wZ rg (o_loadBA (atL (k := 12) rfl) sz97 (by decide) ag97 rfl rfl (v := .agg [.int .i64 (at' r3 level), .int .i64 r2, .int .i64 r5]) rfl ?_)))))))
  refine wZ rg (o_bslice td28 ok97 zav97 (es := [.agg [.int .i64 (at' r3 level), .int .i64 r2, .int .i64 r5]]) rfl (kk := 3) rfl rfl rfl rfl rfl rfl (fun g5 => ?_))
  refine wZ rg (o_appR td28 bts97 ok97 zav97 (es := u2) (xs := [(⟨(at' r3 level), r2, r5⟩ : GDNode)]) (enc := eDNode) (atX hne0 hdx 0 rfl) (by first | rfl | omega | (simp only [go_sem] <;> omega)) (view_rowE (atL (k := 83) rfl) (by first | rfl | omega | (simp only [go_sem] <;> omega))) (kk := 3) rfl rfl (fun _ => rfl) (fun _ => rfl) h.1 rfl (fun _ => (setX hne0 hdx 0 rfl rfl)) (fun g6 => ?_))
  replace h := h.2
  refine wZ rg (o_faP td30 rfl rfl (by rw [sz28]; decide) rfl (wZ rg (o_storeB (atL (k := 4) rfl) sz28 (by decide) rfl (w := .sl 3 q0 k0 g6 0 ((u2 ++ [(⟨(at' r3 level), r2, r5⟩ : GDNode)]).length)) rfl rfl rfl (v := .agg [eL (AV.int .i64) r3, .sl 3 q0 k0 g6 0 ((u2 ++ [(⟨(at' r3 level), r2, r5⟩ : GDNode)]).length), .int .i64 r4]) rfl setL (nZ (qZ ?_)))))
  have hg3 := h.1
  replace h := h.2
  refine Vc.drawn' mixed rg (fun _ => jcr2) (by kernel_rfl) ?_
  refine dL (E := ([(rg, 4)], [])) rfl rfl (by simp) (cfn) (o_loadBA (atL (k := 4) rfl) sz30 (by decide) ag30 rfl rfl (v := .agg [eL (AV.int .i64) r3, .sl 3 q0 k0 g6 0 ((u2 ++ [(⟨(at' r3 level), r2, r5⟩ : GDNode)]).length), .int .i64 r4]) rfl (dP rfl rfl (o_faP td30 rfl rfl (by rw [sz28]; decide) rfl ?_)))
  refine dL (E := ([(rg, 4)], [])) rfl rfl (by simp) (cfa (by simp [apartE]) (cfn)) (o_loadB1 (atL (k := 4) rfl) sz28 ag28 rfl rfl (v := .sl 3 q0 k0 g6 0 ((u2 ++ [(⟨(at' r3 level), r2, r5⟩ : GDNode)]).length)) rfl (dP rfl rfl (o_lenR td28 rfl (dP rfl rfl (o_addG rfl rfl hg3 ?_)))))
  refine dL (E := ([], [(rg, 8)])) rfl rfl (by simp) (cfa (by simp [apartE]) (cfo (by kernel_rfl) (cfn))) (o_storeB (atL (k := 8) rfl) sz30 (by decide) rfl (w := .agg [eL (AV.int .i64) r3, .sl 3 q0 k0 g6 0 ((u2 ++ [(⟨(at' r3 level), r2, r5⟩ : GDNode)]).length), .int .i64 r4]) rfl rfl rfl (v := .agg [eL (AV.int .i64) r3, .sl 3 q0 k0 g6 0 ((u2 ++ [(⟨(at' r3 level), r2, r5⟩ : GDNode)]).length), .int .i64 r4]) rfl setL ?_)
  refine dP rfl rfl (o_assign (v := .int .i64 (1 + ((u2 ++ [(⟨(at' r3 level), r2, r5⟩ : GDNode)]).length : Int))) rfl (dN ?_))
  refine Vc.ret' ?_
  refine res_cellA (atL (k := 8) rfl) sz30 (by decide) ag30 rfl rfl (v := .agg [eL (AV.int .i64) r3, .sl 3 q0 k0 g6 0 ((u2 ++ [(⟨(at' r3 level), r2, r5⟩ : GDNode)]).length), .int .i64 r4]) rfl (res_tmp (v := .int .i64 (1 + ((u2 ++ [(⟨(at' r3 level), r2, r5⟩ : GDNode)]).length : Int))) rfl (res_nil ?_))
  show Gives _ (.tuple [.agg [eL (AV.int .i64) r3, .sl 3 q0 k0 g6 0 ((u2 ++ [(⟨(at' r3 level), r2, r5⟩ : GDNode)]).length), .int .i64 r4], .int .i64 (1 + ((u2 ++ [(⟨(at' r3 level), r2, r5⟩ : GDNode)]).length : Int))]) _
  exact gives_out (hfr _ rfl) (VW.tupL (vl' vr (vl' vr (vn)))) (hQ _ _ _ _ _ h)
theorem ref15_Of_ctr {table : List Bool} {o : List Int} {Q : GDiagram → Prop} {S : St} {R : AV → St → Prop} (h : ref15_Of_W table o Q) (hQ : ∀ r1, Q r1 → R (eDiagram r1) S) :
    Ctr Try.prog 98 [eL AV.bool table, eL (AV.int .i64) o] S R := by
  unfold ref15_Of_W at h
  refine enterT Try.func98 rfl Try.ntmps98 Try.results98 (by kernel_rfl) (fun rg hrg => ?_)
  refine qZ (rZ (wZ rg (o_alloc zav30 ok30 (kk := 3) rfl (fun g1 => (nZ (qZ (rZ (wZ rg (o_build td30 zav30 bok30 szs30 sz30 (ps := []) rfl rfl (v := .agg [.nil, .nil, .int .i64 0]) rfl (wZ rg (o_alloc zav30 ok30 (kk := 3) rfl (fun g2 => (wZ rg (o_storeB (atL (k := 5) rfl) sz30 (by decide) rfl (w := .agg [.nil, .nil, .int .i64 0]) rfl rfl rfl (v := .agg [.nil, .nil, .int .i64 0]) rfl setL (nZ ?_)))))))))))))))
  refine qZ (rZ (wZ rg (o_faP td30 rfl rfl (by rw [sz25]; decide) rfl (wZ rg (o_loadB1 (atL (k := 5) rfl) sz25 ag25 rfl rfl (v := .nil) rfl (mvZ (eL (AV.int .i64) o) rfl (wZ rg (o_appN td25 bts3 ok3 zav3 (xs := o) (enc := AV.int .i64) (rfl) (kk := 1) rfl rfl (fun _ => rfl) (fun _ => rfl) h.1 rfl (fun g3 => ?_)))))))))
  replace h := h.2
  refine wZ rg (o_faP td30 rfl rfl (by rw [sz25]; decide) rfl (wZ rg (o_storeB (atL (k := 5) rfl) sz25 (by decide) rfl (w := .sl 1 rg 10 g3 0 o.length) rfl rfl rfl (v := .agg [.sl 1 rg 10 g3 0 o.length, .nil, .int .i64 0]) rfl setL (nZ (qZ (rZ (wZ rg (o_loadBA (atL (k := 5) rfl) sz30 (by decide) ag30 rfl rfl (v := .agg [.sl 1 rg 10 g3 0 o.length, .nil, .int .i64 0]) rfl (mvZ (eL AV.bool table) rfl ?_)))))))))
  refine Wl.wk (canon_freezeB (k := 10) (xs := List.map (AV.int .i64) o) rfl (es := [(4, .ptr rg 4 g1 0 0), (5, .ptr rg 5 g2 0 0), (13, .agg [eL (AV.int .i64) o, .nil, .int .i64 0]), (14, eL AV.bool table)]) (fc vr (fc vr (fc (VW.aggL (vl' (frz_full rfl) (vl' vr (vl' vr (vn))))) (fc vr (fn))))) (m := [(4, .arr 3 [.agg [.nil, .nil, .int .i64 0]], g1), (5, .arr 3 [.agg [eL (AV.int .i64) o, .nil, .int .i64 0]], g2)]) (zc rfl (zb rfl (zl (frz_full rfl) (zl vr (zl vr (zln)))) (zn)))) ?_
  obtain ⟨_, h⟩ := h
  refine wZ rg (o_call (us := [.agg [eL (AV.int .i64) o, .nil, .int .i64 0], eL AV.bool table, AV.int .i64 0, AV.int .i64 0]) rfl (vl' vr (vl' vr (vl' vr (vl' vr (vn))))) (Ctr.matC 0 1 rg 4800000 3 rfl rfl (by decide) (fun g4 => ctrX ((sx_c (atL (k := 4800000) rfl) (sx_n)).trans setL.symm) (ref15_add__e_ctr (dk_c (ni_n) (dk_n)) h fun u r r1 r2 g5 h => ?_))))
  refine Wl.eqS (sy_c (sx_n) setL) ?_
  refine mvZ (.tuple [.agg [eL (AV.int .i64) r, .sl 3 rg 4800000 g5 0 u.length, .int .i64 r1], .int .i64 r2]) rfl (wZ rg (o_extract (v := .agg [eL (AV.int .i64) r, .sl 3 rg 4800000 g5 0 u.length, .int .i64 r1]) rfl rfl rfl (wZ rg (o_extract (v := .int .i64 r2) rfl rfl rfl ?_))))
  refine wZ rg (o_storeB (atL (k := 5) rfl) sz30 (by decide) rfl (w := .agg [eL (AV.int .i64) r, .sl 3 rg 4800000 g5 0 u.length, .int .i64 r1]) rfl rfl rfl (v := .agg [eL (AV.int .i64) r, .sl 3 rg 4800000 g5 0 u.length, .int .i64 r1]) rfl setL (wZ rg (o_faP td30 rfl rfl (by rw [sz3]; decide) rfl ?_)))
  refine wZ rg (o_storeB (atL (k := 5) rfl) sz3 (by decide) rfl (w := .int .i64 r2) rfl rfl rfl (v := .agg [eL (AV.int .i64) r, .sl 3 rg 4800000 g5 0 u.length, .int .i64 r2]) rfl setL (nZ (qZ (rZ (wZ rg (o_loadBA (atL (k := 5) rfl) sz30 (by decide) ag30 rfl rfl (v := .agg [eL (AV.int .i64) r, .sl 3 rg 4800000 g5 0 u.length, .int .i64 r2]) rfl ?_))))))
  refine wZ rg (o_storeB (atL (k := 4) rfl) sz30 (by decide) rfl (w := .agg [eL (AV.int .i64) r, .sl 3 rg 4800000 g5 0 u.length, .int .i64 r2]) rfl rfl rfl (v := .agg [eL (AV.int .i64) r, .sl 3 rg 4800000 g5 0 u.length, .int .i64 r2]) rfl setL (nZ ?_))
  refine Vc.ret' ?_
  refine res_cellA (atL (k := 4) rfl) sz30 (by decide) ag30 rfl rfl (v := .agg [eL (AV.int .i64) r, .sl 3 rg 4800000 g5 0 u.length, .int .i64 r2]) rfl (res_nil ?_)
  show Gives _ (.agg [eL (AV.int .i64) r, .sl 3 rg 4800000 g5 0 u.length, .int .i64 r2]) _
  refine gives_freeze (k := 4800000) (xs := List.map eDNode u) rfl (v' := .agg [eL (AV.int .i64) r, eL eDNode u, .int .i64 r2]) (VW.aggL (vl' vr (vl' (frz_full rfl) (vl' vr (vn))))) ?_
  exact gives_out hrg (VW.refl _) (hQ _ h)
theorem ref15_Formula_ctr {f : GFormula} {Q : List Bool → Prop} {S : St} {R : AV → St → Prop} (h : ref15_Formula_W f Q) (hQ : ∀ r1, Q r1 → R (eL AV.bool r1) S) :
    Ctr Try.prog 130 [eFormula f] S R := by
  unfold ref15_Formula_W at h
  refine enterT Try.func130 rfl Try.ntmps130 Try.results130 (by kernel_rfl) (fun rg hrg => ?_)
  refine qZ (rZ (wZ rg (o_box (v := eFormula f) rfl rfl (kk := 3) rfl (by decide) (fun g1 => (asZ .nil rfl (nZ (qZ (rZ (asZ .nil rfl (nZ (qZ (qZ (rZ (asZ (.int .i64 0) rfl (nZ ?_)))))))))))))))
  refine Vc.blk ?_
  refine Vc.mat 3 17 1 rfl (by decide) (fun g2 => ?_)
  obtain ⟨I, μ, h0, hI⟩ := h
  refine Vc.loop' (σ := ((Int × (List Bool)) × (Nat))) (fun y => I y.1) (fun y => μ y.1) (fun y => envOf [(1, .ptr rg 1 g1 0 0), (3, .sl 1 rg 17 y.2 0 y.1.2.length), (4, .int .i64 y.1.1)]) (fun y => stL S rg [(1, .arr 3 [eFormula f], g1), (17, .arr 1 (List.map AV.bool y.1.2), y.2)]) ((0, []), g2) (canon (fc vr (fc (VW.slen (by first | rfl | omega | (simp only [go_sem] <;> omega))) (fc vr (fn)))) (sc rfl (sc rfl (sn)))) h0 (fun y h => ?_)
  obtain ⟨⟨s, out⟩, g3⟩ := y
  replace h := hI (s, out) h
  show Vc _ _ _ _ (envOf [(1, .ptr rg 1 g1 0 0), (3, .sl 1 rg 17 g3 0 out.length), (4, .int .i64 s)]) (stL S rg [(1, .arr 3 [eFormula f], g1), (17, .arr 1 (List.map AV.bool out), g3)])
  refine qZ (qZ (rZ (mvZ (.int .i64 s) rfl (wZ rg (o_faP td24 rfl rfl (by rw [sz3]; decide) rfl (wZ rg (o_loadB1 (atL (k := 1) rfl) sz3 ag3 rfl rfl (v := .int .i64 f.Vars) rfl (wZ rg (o_shlG rfl rfl h.1 ?_)))))))))
  replace h := h.2
  refine wZ rg (o_lss rfl rfl (nZ ?_))
  refine Vc.cond' rfl (fun hb => ?_) (fun hb => ?_)
  · replace h := h.1 hb
    refine Vc.skip' ?_
    refine qZ ?_
    refine Vc.blk ?_
    refine rZ ?_
    refine mvZ (.sl 1 rg 17 g3 0 out.length) rfl (wZ rg (o_loadBA (atL (k := 1) rfl) sz24 (by decide) ag24 rfl rfl (v := eFormula f) rfl (mvZ (.int .i64 s) rfl (wZ rg (o_call (us := [eFormula f, AV.int .i64 s]) rfl (vl' vr (vl' vr (vn))) (ref08_Value_ctr h fun r h => (wZ rg (o_bslice td110 ok4 zav4 (es := [.bool r]) rfl (kk := 1) rfl rfl rfl rfl rfl rfl (fun g4 => ?_)))))))))
    refine wZ rg (o_appR td110 bts4 ok4 zav4 (es := out) (xs := [r]) (enc := AV.bool) (atL (k := 17) rfl) (by first | rfl | omega | (simp only [go_sem] <;> omega)) (view_rowE (atL (k := 16) rfl) (by first | rfl | omega | (simp only [go_sem] <;> omega))) (kk := 1) rfl rfl (fun _ => rfl) (fun _ => rfl) h.1 rfl (fun _ => setL) (fun g5 => ?_))
    replace h := h.2
    refine asZ (.sl 1 rg 17 g5 0 ((out ++ [r]).length)) rfl (nZ (rZ (mvZ (.int .i64 s) rfl (wZ rg (o_addG rfl rfl h.1 ?_)))))
    replace h := h.2
    refine asZ (.int .i64 (s + 1)) rfl (nZ ?_)
    exact ⟨(((s + 1), (out ++ [r])), g5), (canon (fc vr (fc vr (fc vr (fn)))) (sc rfl (sc rfl (sn)))), h⟩
  replace h := h.2 hb
  refine Vc.exit' (exB_self ?_)
  refine qZ (rZ (mvZ (.sl 1 rg 17 g3 0 out.length) rfl (asZ (.sl 1 rg 17 g3 0 out.length) rfl (nZ ?_))))
  refine Vc.ret' ?_
  refine res_tmp (v := .sl 1 rg 17 g3 0 out.length) rfl (res_nil ?_)
  show Gives _ (.sl 1 rg 17 g3 0 out.length) _
  refine gives_freeze (k := 17) (xs := List.map AV.bool out) rfl (v' := eL AV.bool out) (frz_full rfl) ?_
  exact gives_out hrg (VW.refl _) (hQ _ h)
theorem ref15_Build_ctr {f : GFormula} {o : List Int} {Q : GDiagram → Prop} {S : St} {R : AV → St → Prop} (h : ref15_Build_W f o Q) (hQ : ∀ r1, Q r1 → R (eDiagram r1) S) :
    Ctr Try.prog 86 [eFormula f, eL (AV.int .i64) o] S R := by
  unfold ref15_Build_W at h
  refine enterT Try.func86 rfl Try.ntmps86 Try.results86 (by kernel_rfl) (fun rg hrg => ?_)
  refine qZ (rZ (wZ rg (o_box (v := eFormula f) rfl rfl (kk := 3) rfl (by decide) (fun g1 => (wZ rg (o_alloc zav30 ok30 (kk := 3) rfl (fun g2 => (nZ (qZ (rZ (wZ rg (o_loadBA (atL (k := 2) rfl) sz24 (by decide) ag24 rfl rfl (v := eFormula f) rfl (wZ rg (o_call (us := [eFormula f]) rfl (vl' vr (vn)) (ref15_Formula_ctr h fun r h => (mvZ (eL (AV.int .i64) o) rfl ?_))))))))))))))))
  refine wZ rg (o_call (us := [eL AV.bool r, eL (AV.int .i64) o]) rfl (vl' vr (vl' vr (vn))) (ref15_Of_ctr h fun r1 h => (wZ rg (o_storeB (atL (k := 4) rfl) sz30 (by decide) rfl (w := eDiagram r1) rfl rfl rfl (v := eDiagram r1) rfl setL (nZ ?_)))))
  refine Vc.ret' ?_
  refine res_cellA (atL (k := 4) rfl) sz30 (by decide) ag30 rfl rfl (v := eDiagram r1) rfl (res_nil ?_)
  show Gives _ (eDiagram r1) _
  exact gives_out hrg (VW.refl _) (hQ _ h)
end Go.Proofs.Ytiamkdpljeemkaa
/- Walks of functions. Conditions: none. -/
namespace Go.Proofs.Ytiamkdpljeemkaa
open Go.Gg
set_option maxRecDepth 100000
theorem law17_example_ctr {Q : GFormula → Prop} {S : St} {R : AV → St → Prop} (h : law17_example_W Q) (hQ : ∀ r1, Q r1 → R (eFormula r1) S) :
    Ctr Try.prog 87 [] S R := by
  unfold law17_example_W at h
  refine enterT Try.func87 rfl Try.ntmps87 Try.results87 (by kernel_rfl) (fun rg hrg => ?_)
  refine qZ (rZ (wZ rg (o_alloc zav24 ok24 (kk := 3) rfl (fun g1 => (nZ (qZ (rZ (wZ rg (o_bslice td25 ok3 zav3 (es := [.int .i64 0, .int .i64 1]) rfl (kk := 1) rfl rfl rfl rfl rfl rfl (fun g2 => (wZ rg (o_build td105 zav105 bok105 szs105 sz105 (ps := [(0, .int .i64 2), (2, .sl 1 rg 1 g2 0 ([0, 1].length))]) rfl rfl (v := .agg [.int .i64 2, .int .i64 0, .sl 1 rg 1 g2 0 ([0, 1].length)]) rfl ?_))))))))))))
  refine wZ rg (o_bslice td25 ok3 zav3 (es := [.int .i64 2, .int .i64 3]) rfl (kk := 1) rfl rfl rfl rfl rfl rfl (fun g3 => (wZ rg (o_build td105 zav105 bok105 szs105 sz105 (ps := [(0, .int .i64 2), (2, .sl 1 rg 3 g3 0 ([2, 3].length))]) rfl rfl (v := .agg [.int .i64 2, .int .i64 0, .sl 1 rg 3 g3 0 ([2, 3].length)]) rfl ?_))))
  refine wZ rg (o_bslice td25 ok3 zav3 (es := [.int .i64 4, .int .i64 5]) rfl (kk := 1) rfl rfl rfl rfl rfl rfl (fun g4 => (wZ rg (o_build td105 zav105 bok105 szs105 sz105 (ps := [(0, .int .i64 3), (2, .sl 1 rg 5 g4 0 ([4, 5].length))]) rfl rfl (v := .agg [.int .i64 3, .int .i64 0, .sl 1 rg 5 g4 0 ([4, 5].length)]) rfl ?_))))
  refine Wl.wk (canon_freeze (k := 1) (xs := List.map (AV.int .i64) [0, 1]) rfl (es := [(0, .ptr rg 0 g1 0 0), (2, .agg [.int .i64 2, .int .i64 0, eL (AV.int .i64) [0, 1]]), (4, .agg [.int .i64 2, .int .i64 0, .sl 1 rg 3 g3 0 ([2, 3].length)]), (6, .agg [.int .i64 3, .int .i64 0, .sl 1 rg 5 g4 0 ([4, 5].length)])]) (fc vr (fc (VW.aggL (vl' vr (vl' vr (vl' (frz_full rfl) (vn))))) (fc (VW.aggL (vl' vr (vl' vr (vl' (frz_ne rfl) (vn))))) (fc (VW.aggL (vl' vr (vl' vr (vl' (frz_ne rfl) (vn))))) (fn))))) (m := [(0, .arr 3 [.agg [.int .i64 0, .nil, .int .i64 0]], g1), (3, .arr 1 (List.map (AV.int .i64) [2, 3]), g3), (5, .arr 1 (List.map (AV.int .i64) [4, 5]), g4)]) (sc rfl (sc rfl (sc rfl (sn))))) ?_
  refine Wl.wk (canon_freeze (k := 3) (xs := List.map (AV.int .i64) [2, 3]) rfl (es := [(0, .ptr rg 0 g1 0 0), (2, .agg [.int .i64 2, .int .i64 0, eL (AV.int .i64) [0, 1]]), (4, .agg [.int .i64 2, .int .i64 0, eL (AV.int .i64) [2, 3]]), (6, .agg [.int .i64 3, .int .i64 0, .sl 1 rg 5 g4 0 ([4, 5].length)])]) (fc vr (fc vr (fc (VW.aggL (vl' vr (vl' vr (vl' (frz_full rfl) (vn))))) (fc (VW.aggL (vl' vr (vl' vr (vl' (frz_ne rfl) (vn))))) (fn))))) (m := [(0, .arr 3 [.agg [.int .i64 0, .nil, .int .i64 0]], g1), (5, .arr 1 (List.map (AV.int .i64) [4, 5]), g4)]) (sc rfl (sc rfl (sn)))) ?_
  refine Wl.wk (canon_freeze (k := 5) (xs := List.map (AV.int .i64) [4, 5]) rfl (es := [(0, .ptr rg 0 g1 0 0), (2, .agg [.int .i64 2, .int .i64 0, eL (AV.int .i64) [0, 1]]), (4, .agg [.int .i64 2, .int .i64 0, eL (AV.int .i64) [2, 3]]), (6, .agg [.int .i64 3, .int .i64 0, eL (AV.int .i64) [4, 5]])]) (fc vr (fc vr (fc vr (fc (VW.aggL (vl' vr (vl' vr (vl' (frz_full rfl) (vn))))) (fn))))) (m := [(0, .arr 3 [.agg [.int .i64 0, .nil, .int .i64 0]], g1)]) (sc rfl (sn))) ?_
  refine wZ rg (o_bslice td22 ok105 zav105 (es := [.agg [.int .i64 2, .int .i64 0, eL (AV.int .i64) [0, 1]], .agg [.int .i64 2, .int .i64 0, eL (AV.int .i64) [2, 3]], .agg [.int .i64 3, .int .i64 0, eL (AV.int .i64) [4, 5]]]) rfl (kk := 3) rfl rfl rfl rfl rfl rfl (fun g8 => ?_))
  refine wZ rg (o_build td24 zav24 bok24 szs24 sz24 (ps := [(0, .int .i64 4), (1, .sl 3 rg 7 g8 0 ([(⟨2, 0, [0, 1]⟩ : GNode), (⟨2, 0, [2, 3]⟩ : GNode), (⟨3, 0, [4, 5]⟩ : GNode)].length)), (2, .int .i64 6)]) rfl rfl (v := .agg [.int .i64 4, .sl 3 rg 7 g8 0 ([(⟨2, 0, [0, 1]⟩ : GNode), (⟨2, 0, [2, 3]⟩ : GNode), (⟨3, 0, [4, 5]⟩ : GNode)].length), .int .i64 6]) rfl ?_)
  refine wZ rg (o_storeB (atL (k := 0) rfl) sz24 (by decide) rfl (w := .agg [.int .i64 4, .sl 3 rg 7 g8 0 ([(⟨2, 0, [0, 1]⟩ : GNode), (⟨2, 0, [2, 3]⟩ : GNode), (⟨3, 0, [4, 5]⟩ : GNode)].length), .int .i64 6]) rfl rfl rfl (v := .agg [.int .i64 4, .sl 3 rg 7 g8 0 ([(⟨2, 0, [0, 1]⟩ : GNode), (⟨2, 0, [2, 3]⟩ : GNode), (⟨3, 0, [4, 5]⟩ : GNode)].length), .int .i64 6]) rfl setL (nZ ?_))
  refine Vc.ret' ?_
  refine res_cellA (atL (k := 0) rfl) sz24 (by decide) ag24 rfl rfl (v := .agg [.int .i64 4, .sl 3 rg 7 g8 0 ([(⟨2, 0, [0, 1]⟩ : GNode), (⟨2, 0, [2, 3]⟩ : GNode), (⟨3, 0, [4, 5]⟩ : GNode)].length), .int .i64 6]) rfl (res_nil ?_)
  show Gives _ (.agg [.int .i64 4, .sl 3 rg 7 g8 0 ([(⟨2, 0, [0, 1]⟩ : GNode), (⟨2, 0, [2, 3]⟩ : GNode), (⟨3, 0, [4, 5]⟩ : GNode)].length), .int .i64 6]) _
  refine gives_freeze (k := 7) (xs := List.map eNode [(⟨2, 0, [0, 1]⟩ : GNode), (⟨2, 0, [2, 3]⟩ : GNode), (⟨3, 0, [4, 5]⟩ : GNode)]) rfl (v' := .agg [.int .i64 4, eL eNode [(⟨2, 0, [0, 1]⟩ : GNode), (⟨2, 0, [2, 3]⟩ : GNode), (⟨3, 0, [4, 5]⟩ : GNode)], .int .i64 6]) (VW.aggL (vl' vr (vl' (frz_full rfl) (vl' vr (vn))))) ?_
  exact gives_out hrg (VW.refl _) (hQ _ h)
theorem law17_awake_ctr {Q : Bool → Prop} {S : St} {R : AV → St → Prop} (h : law17_awake_W Q) (hQ : ∀ r1, Q r1 → R (AV.bool r1) S) :
    Ctr Try.prog 34 [] S R := by
  unfold law17_awake_W at h
  refine enterT Try.func34 rfl Try.ntmps34 Try.results34 (by kernel_rfl) (fun rg hrg => ?_)
  refine qZ (rZ (asZ (.bool false) rfl (nZ (qZ (rZ (wZ rg (o_call (us := []) rfl (vn) (law17_example_ctr h fun r h => (wZ rg (o_bslice td25 ok3 zav3 (es := [.int .i64 0, .int .i64 2, .int .i64 1, .int .i64 3]) rfl (kk := 1) rfl rfl rfl rfl rfl rfl (fun g1 => ?_)))))))))))
  refine Wl.wk (canon_freeze (k := 7) (xs := List.map (AV.int .i64) [0, 2, 1, 3]) rfl (es := [(6, eFormula r), (7, eL (AV.int .i64) [0, 2, 1, 3])]) (fc vr (fc (frz_full rfl) (fn))) (m := []) (sn)) ?_
  refine wZ rg (o_call (us := [eFormula r, eL (AV.int .i64) [0, 2, 1, 3]]) rfl (vl' vr (vl' vr (vn))) (ref15_Build_ctr h fun r1 h => (wZ rg (o_alloc zav30 ok30 (kk := 3) rfl (fun g2 => (wZ rg (o_storeB (atL (k := 1) rfl) sz30 (by decide) rfl (w := eDiagram r1) rfl rfl rfl (v := eDiagram r1) rfl setL (nZ (qZ (rZ ?_))))))))))
  refine wZ rg (o_loadBA (atL (k := 1) rfl) sz30 (by decide) ag30 rfl rfl (v := eDiagram r1) rfl (wZ rg (o_call (us := [eDiagram r1]) rfl (vl' vr (vn)) (sifting_Sift_ctr h fun r2 r3 h => (mvZ (.tuple [eDiagram r2, eErr 73 r3]) rfl (wZ rg (o_extract (v := eDiagram r2) rfl rfl rfl (wZ rg (o_extract (v := eErr 73 r3) rfl rfl rfl (wZ rg (o_alloc zav30 ok30 (kk := 3) rfl (fun g3 => ?_))))))))))))
  refine wZ rg (o_storeB (atL (k := 2) rfl) sz30 (by decide) rfl (w := eDiagram r2) rfl rfl rfl (v := eDiagram r2) rfl setL (asZ (eErr 73 r3) rfl (nZ (qZ (rZ (wZ rg (o_loadBA (atL (k := 1) rfl) sz30 (by decide) ag30 rfl rfl (v := eDiagram r1) rfl (wZ rg (o_call (us := [eDiagram r1]) rfl (vl' vr (vn)) (sifting_Best_ctr h fun r4 r5 h => (mvZ (.tuple [eDiagram r4, eErr 73 r5]) rfl ?_)))))))))))
  refine wZ rg (o_extract (v := eDiagram r4) rfl rfl rfl (wZ rg (o_extract (v := eErr 73 r5) rfl rfl rfl (wZ rg (o_alloc zav30 ok30 (kk := 3) rfl (fun g4 => (wZ rg (o_storeB (atL (k := 4) rfl) sz30 (by decide) rfl (w := eDiagram r4) rfl rfl rfl (v := eDiagram r4) rfl setL (asZ (eErr 73 r5) rfl (nZ (qZ (rZ (mvZ (eErr 73 r3) rfl (wZ rg (o_isnil td32 (E := 73) rfl rfl rfl ?_)))))))))))))))
  refine mvZ (.bool (Option.isNone r3)) rfl ?_
  refine Wl.guard rfl rfl (fun hb => ?_) (fun hb => ?_)
  · replace h := h.1 hb
    refine mvZ (eErr 73 r5) rfl ?_
    refine Wl.guardT rfl rfl hb ?_
    refine wZ rg (o_isnil td32 (E := 73) rfl rfl rfl (wZ rg (o_pickT rfl hb (v := .bool (Option.isNone r5)) rfl (mvZ (.bool (Option.isNone r5)) rfl ?_))))
    refine Wl.guard rfl rfl (fun hb1 => ?_) (fun hb1 => ?_)
    · replace h := h.1 hb1
      refine wZ rg (o_faP td30 rfl rfl (by rw [sz28]; decide) rfl ?_)
      refine Wl.guardT rfl rfl hb1 ?_
      refine wZ rg (o_loadB1 (atL (k := 1) rfl) sz28 ag28 rfl rfl (v := eL eDNode r1.Nodes) rfl ?_)
      refine Wl.guardT rfl rfl hb1 ?_
      refine wZ rg (o_len td28 rfl ?_)
      refine Wl.guardT rfl rfl hb1 ?_
      refine wZ rg (o_eql rfl rfl (wZ rg (o_pickT rfl hb1 (v := .bool ((r1.Nodes.length : Int) == 6)) rfl (mvZ (.bool ((r1.Nodes.length : Int) == 6)) rfl ?_))))
      refine Wl.guard rfl rfl (fun hb2 => ?_) (fun hb2 => ?_)
      · replace h := h.1 hb2
        refine wZ rg (o_faP td30 rfl rfl (by rw [sz28]; decide) rfl ?_)
        refine Wl.guardT rfl rfl hb2 ?_
        refine wZ rg (o_loadB1 (atL (k := 2) rfl) sz28 ag28 rfl rfl (v := eL eDNode r2.Nodes) rfl ?_)
        refine Wl.guardT rfl rfl hb2 ?_
        refine wZ rg (o_len td28 rfl ?_)
        refine Wl.guardT rfl rfl hb2 ?_
        refine wZ rg (o_eql rfl rfl (wZ rg (o_pickT rfl hb2 (v := .bool ((r2.Nodes.length : Int) == 4)) rfl (mvZ (.bool ((r2.Nodes.length : Int) == 4)) rfl ?_))))
        refine Wl.guard rfl rfl (fun hb3 => ?_) (fun hb3 => ?_)
        · replace h := h.1 hb3
          refine wZ rg (o_faP td30 rfl rfl (by rw [sz28]; decide) rfl ?_)
          refine Wl.guardT rfl rfl hb3 ?_
          refine wZ rg (o_loadB1 (atL (k := 4) rfl) sz28 ag28 rfl rfl (v := eL eDNode r4.Nodes) rfl ?_)
          refine Wl.guardT rfl rfl hb3 ?_
          refine wZ rg (o_len td28 rfl ?_)
          refine Wl.guardT rfl rfl hb3 ?_
          refine wZ rg (o_eql rfl rfl (wZ rg (o_pickT rfl hb3 (v := .bool ((r4.Nodes.length : Int) == 4)) rfl (mvZ (.bool ((r4.Nodes.length : Int) == 4)) rfl ?_))))
          refine Wl.guard rfl rfl (fun hb4 => ?_) (fun hb4 => ?_)
          · replace h := h.1 hb4
            refine wZ rg (o_faP td30 rfl rfl (by rw [sz25]; decide) rfl ?_)
            refine Wl.guardT rfl rfl hb4 ?_
            refine wZ rg (o_loadB1 (atL (k := 4) rfl) sz25 ag25 rfl rfl (v := eL (AV.int .i64) r4.Order) rfl ?_)
            refine Wl.guardT rfl rfl hb4 ?_
            refine wZ rg (o_bslice td25 ok3 zav3 (es := [.int .i64 0, .int .i64 1, .int .i64 2, .int .i64 3]) rfl (kk := 1) rfl rfl rfl rfl rfl rfl (fun g5 => ?_))
            refine Wl.guardT rfl rfl hb4 ?_
            refine Wl.wk (canon_freeze (k := 46) (xs := List.map (AV.int .i64) [0, 1, 2, 3]) rfl (es := [(43, .bool ((r4.Nodes.length : Int) == 4)), (45, eL (AV.int .i64) r4.Order), (46, eL (AV.int .i64) [0, 1, 2, 3])]) (fc vr (fc vr (fc (frz_full rfl) (fn)))) (m := []) (sn)) ?_
            refine wZ rg (o_call (us := [eL (AV.int .i64) r4.Order, eL (AV.int .i64) [0, 1, 2, 3]]) rfl (vl' vr (vl' vr (vn))) (base_Ints_ctr h fun r6 h => (wZ rg (o_pickT rfl hb4 (v := .bool r6) rfl (asZ (.bool r6) rfl (nZ ?_))))))
            refine Vc.ret' ?_
            refine res_tmp (v := .bool r6) rfl (res_nil ?_)
            show Gives _ (.bool r6) _
            exact gives_out hrg (VW.refl _) (hQ _ h)
          replace h := h.2 hb4
          refine Wl.guardF rfl rfl hb4 rfl ?_
          refine Wl.guardF rfl rfl hb4 rfl ?_
          refine Wl.guardF rfl rfl hb4 rfl ?_
          refine wZ rg (o_pickF rfl hb4 (v := .bool false) rfl (asZ (.bool false) rfl (nZ ?_)))
          refine Vc.ret' ?_
          refine res_tmp (v := .bool false) rfl (res_nil ?_)
          show Gives _ (.bool false) _
          exact gives_out hrg (VW.refl _) (hQ _ h)
        replace h := h.2 hb3
        refine Wl.guardF rfl rfl hb3 rfl ?_
        refine Wl.guardF rfl rfl hb3 rfl ?_
        refine Wl.guardF rfl rfl hb3 rfl ?_
        refine wZ rg (o_pickF rfl hb3 (v := .bool false) rfl (mvZ (.bool false) rfl ?_))
        refine Wl.guardF rfl rfl rfl rfl ?_
        refine Wl.guardF rfl rfl rfl rfl ?_
        refine Wl.guardF rfl rfl rfl rfl ?_
        refine Wl.guardF rfl rfl rfl rfl ?_
        refine wZ rg (o_pickF rfl rfl (v := .bool false) rfl (asZ (.bool false) rfl (nZ ?_)))
        refine Vc.ret' ?_
        refine res_tmp (v := .bool false) rfl (res_nil ?_)
        show Gives _ (.bool false) _
        exact gives_out hrg (VW.refl _) (hQ _ h)
      replace h := h.2 hb2
      refine Wl.guardF rfl rfl hb2 rfl ?_
      refine Wl.guardF rfl rfl hb2 rfl ?_
      refine Wl.guardF rfl rfl hb2 rfl ?_
      refine wZ rg (o_pickF rfl hb2 (v := .bool false) rfl (mvZ (.bool false) rfl ?_))
      refine Wl.guardF rfl rfl rfl rfl ?_
      refine Wl.guardF rfl rfl rfl rfl ?_
      refine Wl.guardF rfl rfl rfl rfl ?_
      refine Wl.guardF rfl rfl rfl rfl ?_
      refine wZ rg (o_pickF rfl rfl (v := .bool false) rfl (mvZ (.bool false) rfl ?_))
      refine Wl.guardF rfl rfl rfl rfl ?_
      refine Wl.guardF rfl rfl rfl rfl ?_
      refine Wl.guardF rfl rfl rfl rfl ?_
      refine Wl.guardF rfl rfl rfl rfl ?_
      refine wZ rg (o_pickF rfl rfl (v := .bool false) rfl (asZ (.bool false) rfl (nZ ?_)))
      refine Vc.ret' ?_
      refine res_tmp (v := .bool false) rfl (res_nil ?_)
      show Gives _ (.bool false) _
      exact gives_out hrg (VW.refl _) (hQ _ h)
    replace h := h.2 hb1
    refine Wl.guardF rfl rfl hb1 rfl ?_
    refine Wl.guardF rfl rfl hb1 rfl ?_
    refine Wl.guardF rfl rfl hb1 rfl ?_
    refine wZ rg (o_pickF rfl hb1 (v := .bool false) rfl (mvZ (.bool false) rfl ?_))
    refine Wl.guardF rfl rfl rfl rfl ?_
    refine Wl.guardF rfl rfl rfl rfl ?_
    refine Wl.guardF rfl rfl rfl rfl ?_
    refine Wl.guardF rfl rfl rfl rfl ?_
    refine wZ rg (o_pickF rfl rfl (v := .bool false) rfl (mvZ (.bool false) rfl ?_))
    refine Wl.guardF rfl rfl rfl rfl ?_
    refine Wl.guardF rfl rfl rfl rfl ?_
    refine Wl.guardF rfl rfl rfl rfl ?_
    refine Wl.guardF rfl rfl rfl rfl ?_
    refine wZ rg (o_pickF rfl rfl (v := .bool false) rfl (mvZ (.bool false) rfl ?_))
    refine Wl.guardF rfl rfl rfl rfl ?_
    refine Wl.guardF rfl rfl rfl rfl ?_
    refine Wl.guardF rfl rfl rfl rfl ?_
    refine Wl.guardF rfl rfl rfl rfl ?_
    refine wZ rg (o_pickF rfl rfl (v := .bool false) rfl (asZ (.bool false) rfl (nZ ?_)))
    refine Vc.ret' ?_
    refine res_tmp (v := .bool false) rfl (res_nil ?_)
    show Gives _ (.bool false) _
    exact gives_out hrg (VW.refl _) (hQ _ h)
  replace h := h.2 hb
  refine Wl.guardF rfl rfl hb rfl ?_
  refine wZ rg (o_pickF rfl hb (v := .bool false) rfl (mvZ (.bool false) rfl ?_))
  refine Wl.guardF rfl rfl rfl rfl ?_
  refine Wl.guardF rfl rfl rfl rfl ?_
  refine Wl.guardF rfl rfl rfl rfl ?_
  refine Wl.guardF rfl rfl rfl rfl ?_
  refine wZ rg (o_pickF rfl rfl (v := .bool false) rfl (mvZ (.bool false) rfl ?_))
  refine Wl.guardF rfl rfl rfl rfl ?_
  refine Wl.guardF rfl rfl rfl rfl ?_
  refine Wl.guardF rfl rfl rfl rfl ?_
  refine Wl.guardF rfl rfl rfl rfl ?_
  refine wZ rg (o_pickF rfl rfl (v := .bool false) rfl (mvZ (.bool false) rfl ?_))
  refine Wl.guardF rfl rfl rfl rfl ?_
  refine Wl.guardF rfl rfl rfl rfl ?_
  refine Wl.guardF rfl rfl rfl rfl ?_
  refine Wl.guardF rfl rfl rfl rfl ?_
  refine wZ rg (o_pickF rfl rfl (v := .bool false) rfl (mvZ (.bool false) rfl ?_))
  refine Wl.guardF rfl rfl rfl rfl ?_
  refine Wl.guardF rfl rfl rfl rfl ?_
  refine Wl.guardF rfl rfl rfl rfl ?_
  refine Wl.guardF rfl rfl rfl rfl ?_
  refine wZ rg (o_pickF rfl rfl (v := .bool false) rfl (asZ (.bool false) rfl (nZ ?_)))
  refine Vc.ret' ?_
  refine res_tmp (v := .bool false) rfl (res_nil ?_)
  show Gives _ (.bool false) _
  exact gives_out hrg (VW.refl _) (hQ _ h)
end Go.Proofs.Ytiamkdpljeemkaa
/- Walks of functions. Conditions: none. -/
namespace Go.Proofs.Ytiamkdpljeemkaa
open Go.Gg
set_option maxRecDepth 100000
theorem formula_Size_ctr {f : GFormula} {Q : Int → Int → Option Int → Prop} {S : St} {R : AV → St → Prop} (h : formula_Size_W f Q) (hQ : ∀ r1 r2 r3, Q r1 r2 r3 → R (.tuple [AV.int .i64 r1, AV.int .i64 r2, eErr 73 r3]) S) :
    Ctr Try.prog 72 [eFormula f] S R := by
  unfold formula_Size_W at h
  refine enterT Try.func72 rfl Try.ntmps72 Try.results72 (by kernel_rfl) (fun rg hrg => ?_)
  refine qZ (rZ (wZ rg (o_box (v := eFormula f) rfl rfl (kk := 3) rfl (by decide) (fun g1 => (asZ (.int .i64 0) rfl (asZ (.int .i64 0) rfl (asZ .niface rfl (nZ (qZ (qZ (rZ (wZ rg (o_loadBA (atL (k := 1) rfl) sz24 (by decide) ag24 rfl rfl (v := eFormula f) rfl (wZ rg (o_call (us := [eFormula f]) rfl (vl' vr (vn)) (formula_Check_ctr h fun e h => (asZ (eErr 73 e) rfl (nZ (qZ (rZ ?_))))))))))))))))))))
  refine mvZ (eErr 73 e) rfl (wZ rg (o_isnon td32 (E := 73) rfl rfl rfl (nZ ?_)))
  refine Vc.cond' rfl (fun hb => ?_) (fun hb => ?_)
  · replace h := h.1 hb
    refine qZ (rZ (mvZ (eErr 73 e) rfl (asZ (.int .i64 0) rfl (asZ (.int .i64 0) rfl (asZ (eErr 73 e) rfl (nZ ?_))))))
    refine Vc.ret' ?_
    refine res_tmp (v := .int .i64 0) rfl (res_tmp (v := .int .i64 0) rfl (res_tmp (v := eErr 73 e) rfl (res_nil ?_)))
    show Gives _ (.tuple [.int .i64 0, .int .i64 0, eErr 73 e]) _
    exact gives_out hrg (VW.tupL (vl' vr (vl' vr (vl' vr (vn))))) (hQ _ _ _ h)
  replace h := h.2 hb
  refine Vc.skip' ?_
  refine qZ (qZ ?_)
  obtain ⟨r, hc, h⟩ := h
  have hg := h.1
  replace h := h.2
  refine Vc.drawn' mixed rg (usOf [(1, pc (eL AV.bool r))]) (by kernel_rfl) ?_
  refine dL (E := ([(rg, 1)], [])) rfl rfl (by simp) (cfn) (o_loadBA (atL (k := 1) rfl) sz24 (by decide) ag24 rfl rfl (v := eFormula f) rfl ?_)
  refine dC (vs := [eFormula f]) rfl (vl' vr (vn)) (fun _ => formula_below_ctr hc (fun _ hr => ⟨by rw [hr], rfl⟩)) rfl ?_
  refine dP rfl rfl (o_faP td24 rfl rfl (by rw [sz3]; decide) rfl (dL (E := ([(rg, 1)], [])) rfl rfl (by simp) (cfa (by simp [apartE]) (cfn)) (o_loadB1 (atL (k := 1) rfl) sz3 ag3 rfl rfl (v := .int .i64 f.Vars) rfl (dP rfl rfl (o_sliceL td110 sz4 (by decide) (fun _ => rfl) rfl (l := f.Vars) (h := (r.length : Int)) rfl rfl hg (dP rfl rfl (o_len td110 rfl (dP rfl rfl (o_move (v := .int .i64 0) rfl ?_)))))))))
  refine dN ?_
  refine Vc.blk ?_
  obtain ⟨I, μ, h0, hI⟩ := h
  refine Vc.loop' (σ := (Int × Int × Int)) (fun y => I y) (fun y => μ y) (fun y => envOf [(1, .ptr rg 1 g1 0 0), (2, .int .i64 y.1), (3, .int .i64 y.2.1), (17, eL AV.bool (sub' r f.Vars (r.length : Int))), (18, .int .i64 ((sub' r f.Vars (r.length : Int)).length : Int)), (19, .int .i64 y.2.2)]) (fun y => stL S rg [(1, .arr 3 [eFormula f], g1)]) (0, 0, 0) (canon (fc vr (fc vr (fc vr (fc vr (fc vr (fc vr (fn))))))) (sc rfl (sn))) h0 (fun y h => ?_)
  obtain ⟨nodes, args, x⟩ := y
  replace h := hI (nodes, args, x) h
  show Vc _ _ _ _ (envOf [(1, .ptr rg 1 g1 0 0), (2, .int .i64 nodes), (3, .int .i64 args), (17, eL AV.bool (sub' r f.Vars (r.length : Int))), (18, .int .i64 ((sub' r f.Vars (r.length : Int)).length : Int)), (19, .int .i64 x)]) (stL S rg [(1, .arr 3 [eFormula f], g1)])
  refine qZ (rZ (wZ rg (o_lss rfl rfl (nZ (qZ ?_)))))
  refine Vc.cond' rfl (fun hb1 => ?_) (fun hb1 => ?_)
  · replace h := h.1 hb1
    refine Vc.skip' ?_
    refine qZ ?_
    refine Vc.blk ?_
    refine qZ (rZ (mvZ (.int .i64 x) rfl (wZ rg (o_idxL td110 sz4 (by decide) (fun _ => rfl) rfl rfl h.1 ?_))))
    replace h := h.2
    refine wZ rg (o_loadI1 sz4 ag4 rfl rfl (v := .bool (at' (sub' r f.Vars (r.length : Int)) x)) rfl (asZ (.int .i64 x) rfl (asZ (.bool (at' (sub' r f.Vars (r.length : Int)) x)) rfl (nZ (qZ (rZ (mvZ (.bool (at' (sub' r f.Vars (r.length : Int)) x)) rfl (nZ ?_))))))))
    refine Vc.cond' rfl (fun hb2 => ?_) (fun hb2 => ?_)
    · replace h := h.1 hb2
      refine qZ (rZ (mvZ (.int .i64 nodes) rfl (wZ rg (o_addG rfl rfl h.1 ?_))))
      replace h := h.2
      refine asZ (.int .i64 (nodes + 1)) rfl (nZ (rZ (mvZ (.int .i64 args) rfl (wZ rg (o_faP td24 rfl rfl (by rw [sz22]; decide) rfl (wZ rg (o_loadB1 (atL (k := 1) rfl) sz22 ag22 rfl rfl (v := eL eNode f.Nodes) rfl (mvZ (.int .i64 x) rfl (wZ rg (o_idxL td22 sz105 (by decide) (fun _ => rfl) rfl rfl h.1 ?_))))))))))
      replace h := h.2
      refine wZ rg (o_fa td105 rfl rfl (by rw [sz25]; decide) rfl rfl (wZ rg (o_loadI1 sz25 ag25 rfl rfl (v := eL (AV.int .i64) ((at' f.Nodes x).Args)) rfl (wZ rg (o_len td25 rfl (wZ rg (o_addG rfl rfl h.1 ?_)))))))
      replace h := h.2
      obtain ⟨args1, hs⟩ : ∃ qz : Int, qz = (args + (((at' f.Nodes x).Args).length : Int)) := ⟨_, rfl⟩
      replace h := h args1 hs
      refine wZ rg (o_assign (v := .int .i64 args1) (by subst hs; rfl) (nZ (rZ (wZ rg (o_addG rfl rfl h.1 ?_)))))
      replace h := h.2
      refine mvZ (.int .i64 (x + 1)) rfl (nZ ?_)
      exact ⟨((nodes + 1), args1, (x + 1)), (canon (fc vr (fc vr (fc vr (fc vr (fc vr (fc vr (fn))))))) (sc rfl (sn))), h⟩
    replace h := h.2 hb2
    refine Vc.skip' ?_
    refine rZ ?_
    refine wZ rg (o_addG rfl rfl h.1 ?_)
    replace h := h.2
    refine mvZ (.int .i64 (x + 1)) rfl (nZ ?_)
    exact ⟨(nodes, args, (x + 1)), (canon (fc vr (fc vr (fc vr (fc vr (fc vr (fc vr (fn))))))) (sc rfl (sn))), h⟩
  replace h := h.2 hb1
  refine Vc.exit' (exB_self ?_)
  refine qZ (rZ (mvZ (.int .i64 nodes) rfl (mvZ (.int .i64 args) rfl (asZ (.int .i64 nodes) rfl (asZ (.int .i64 args) rfl (asZ .niface rfl (nZ ?_)))))))
  refine Vc.ret' ?_
  refine res_tmp (v := .int .i64 nodes) rfl (res_tmp (v := .int .i64 args) rfl (res_tmp (v := .niface) rfl (res_nil ?_)))
  show Gives _ (.tuple [.int .i64 nodes, .int .i64 args, .niface]) _
  exact gives_out hrg (VW.tupL (vl' vr (vl' vr (vl' vr (vn))))) (hQ _ _ _ h)
end Go.Proofs.Ytiamkdpljeemkaa
/- Walks of functions. Conditions: none. -/
namespace Go.Proofs.Ytiamkdpljeemkaa
open Go.Gg
set_option maxRecDepth 100000
theorem decision_Table__Not__e_ctr {a : Int} {order : List Int} {place : List Int} {nodes : List GDNode} {unique : GMap Int} {memo : GMap Int} {q0 k0 g0 q1 k1 g1 q2 k2 g2 q3 k3 g3 q4 k4 g4 q5 k5 g5 : Nat} (hdk : DK [(q0, k0), (q3, k3), (q4, k4), (q5, k5), (q1, k1), (q2, k2)]) {Q : List GDNode → GMap Int → GMap Int → Int → Prop} {S : St} {R : AV → St → Prop} (h : decision_Table__Not__e_W a order place nodes unique memo Q) (hQ : ∀ r1 r2 r3 r4, ∀ h3, Q r1 r2 r3 r4 → R (AV.int .i64 r4) (stX S [(q0, k0, .arr 5 [.agg [.sl 1 q1 k1 g1 0 order.length, .sl 1 q2 k2 g2 0 place.length, .sl 3 q3 k3 h3 0 r1.length, .map q4 k4 g4, .map q5 k5 g5]], g0), (q3, k3, .arr 3 (List.map eDNode r1), h3), (q4, k4, mapE (AV.int .i64) (.many [.i64, .i64, .i64]) r2, g4), (q5, k5, mapE (AV.int .i64) (.many [.i64, .i64, .i64]) r3, g5), (q1, k1, .arr 1 (List.map (AV.int .i64) order), g1), (q2, k2, .arr 1 (List.map (AV.int .i64) place), g2)])) :
    Ctr Try.prog 118 [.ptr q0 k0 g0 0 0, AV.int .i64 a] (stX S [(q0, k0, .arr 5 [.agg [.sl 1 q1 k1 g1 0 order.length, .sl 1 q2 k2 g2 0 place.length, .sl 3 q3 k3 g3 0 nodes.length, .map q4 k4 g4, .map q5 k5 g5]], g0), (q3, k3, .arr 3 (List.map eDNode nodes), g3), (q4, k4, mapE (AV.int .i64) (.many [.i64, .i64, .i64]) unique, g4), (q5, k5, mapE (AV.int .i64) (.many [.i64, .i64, .i64]) memo, g5), (q1, k1, .arr 1 (List.map (AV.int .i64) order), g1), (q2, k2, .arr 1 (List.map (AV.int .i64) place), g2)]) R := by
  unfold decision_Table__Not__e_W at h
  refine enterT Try.func118 rfl Try.ntmps118 Try.results118 (by kernel_rfl) (fun rg hrg => ?_)
  have hdx : DX [(q0, k0, .arr 5 [.agg [.sl 1 q1 k1 g1 0 order.length, .sl 1 q2 k2 g2 0 place.length, .sl 3 q3 k3 g3 0 nodes.length, .map q4 k4 g4, .map q5 k5 g5]], g0), (q3, k3, .arr 3 (List.map eDNode nodes), g3), (q4, k4, mapE (AV.int .i64) (.many [.i64, .i64, .i64]) unique, g4), (q5, k5, mapE (AV.int .i64) (.many [.i64, .i64, .i64]) memo, g5), (q1, k1, .arr 1 (List.map (AV.int .i64) order), g1), (q2, k2, .arr 1 (List.map (AV.int .i64) place), g2)] := hdk
  have hfr := fun X' e => fresh_set (S := S) (rg := rg) (X := [(q0, k0, .arr 5 [.agg [.sl 1 q1 k1 g1 0 order.length, .sl 1 q2 k2 g2 0 place.length, .sl 3 q3 k3 g3 0 nodes.length, .map q4 k4 g4, .map q5 k5 g5]], g0), (q3, k3, .arr 3 (List.map eDNode nodes), g3), (q4, k4, mapE (AV.int .i64) (.many [.i64, .i64, .i64]) unique, g4), (q5, k5, mapE (AV.int .i64) (.many [.i64, .i64, .i64]) memo, g5), (q1, k1, .arr 1 (List.map (AV.int .i64) order), g1), (q2, k2, .arr 1 (List.map (AV.int .i64) place), g2)]) (X' := X') e hrg
  have hne0 := fresh_ne hdx hrg 0 rfl
  have hne3 := fresh_ne hdx hrg 1 rfl
  have hne4 := fresh_ne hdx hrg 2 rfl
  have hne5 := fresh_ne hdx hrg 3 rfl
  have hne1 := fresh_ne hdx hrg 4 rfl
  have hne2 := fresh_ne hdx hrg 5 rfl
  refine qZ (rZ (asZ (.int .i64 0) rfl (nZ (qZ (rZ (mvZ (.ptr q0 k0 g0 0 0) rfl (mvZ (.int .i64 a) rfl ?_)))))))
  obtain ⟨_, h⟩ := h
  refine wZ rg (o_call (us := [.ptr q0 k0 g0 0 0, AV.int .i64 a, AV.int .i64 0, AV.int .i64 1]) rfl (vl' vr (vl' vr (vl' vr (vl' vr (vn))))) (ctrX (sx_c (atX hne0 hdx 0 rfl) (sx_c (atX hne3 hdx 1 rfl) (sx_c (atX hne4 hdx 2 rfl) (sx_c (atX hne5 hdx 3 rfl) (sx_c (atX hne1 hdx 4 rfl) (sx_c (atX hne2 hdx 5 rfl) (sx_n))))))) (decision_Table__Choose__e_ctr (dk_c (ni_c (dk_at 0 1 hdk rfl rfl rfl) (ni_c (dk_at 0 2 hdk rfl rfl rfl) (ni_c (dk_at 0 3 hdk rfl rfl rfl) (ni_c (dk_at 0 4 hdk rfl rfl rfl) (ni_c (dk_at 0 5 hdk rfl rfl rfl) (ni_n)))))) (dk_c (ni_c (dk_at 1 2 hdk rfl rfl rfl) (ni_c (dk_at 1 3 hdk rfl rfl rfl) (ni_c (dk_at 1 4 hdk rfl rfl rfl) (ni_c (dk_at 1 5 hdk rfl rfl rfl) (ni_n))))) (dk_c (ni_c (dk_at 2 3 hdk rfl rfl rfl) (ni_c (dk_at 2 4 hdk rfl rfl rfl) (ni_c (dk_at 2 5 hdk rfl rfl rfl) (ni_n)))) (dk_c (ni_c (dk_at 3 4 hdk rfl rfl rfl) (ni_c (dk_at 3 5 hdk rfl rfl rfl) (ni_n))) (dk_c (ni_c (dk_at 4 5 hdk rfl rfl rfl) (ni_n)) (dk_c (ni_n) (dk_n))))))) h fun u u1 u2 r g6 h => ?_)))
  refine Wl.eqS (sy_c (sy_c (sy_c (sy_c (sx_c (atX hne1 hdx 4 rfl) (sx_c (atX hne2 hdx 5 rfl) (sx_n))) (setX hne5 hdx 3 rfl rfl)) (setX hne4 hdx 2 rfl rfl)) (setX hne3 hdx 1 rfl rfl)) (setX hne0 hdx 0 rfl rfl)) ?_
  refine asZ (.int .i64 r) rfl (nZ ?_)
  refine Vc.ret' ?_
  refine res_tmp (v := .int .i64 r) rfl (res_nil ?_)
  show Gives _ (.int .i64 r) _
  exact gives_out (hfr _ rfl) (VW.refl _) (hQ _ _ _ _ _ h)
theorem decision_Table__And__e_ctr {a : Int} {b : Int} {order : List Int} {place : List Int} {nodes : List GDNode} {unique : GMap Int} {memo : GMap Int} {q0 k0 g0 q1 k1 g1 q2 k2 g2 q3 k3 g3 q4 k4 g4 q5 k5 g5 : Nat} (hdk : DK [(q0, k0), (q3, k3), (q4, k4), (q5, k5), (q1, k1), (q2, k2)]) {Q : List GDNode → GMap Int → GMap Int → Int → Prop} {S : St} {R : AV → St → Prop} (h : decision_Table__And__e_W a b order place nodes unique memo Q) (hQ : ∀ r1 r2 r3 r4, ∀ h3, Q r1 r2 r3 r4 → R (AV.int .i64 r4) (stX S [(q0, k0, .arr 5 [.agg [.sl 1 q1 k1 g1 0 order.length, .sl 1 q2 k2 g2 0 place.length, .sl 3 q3 k3 h3 0 r1.length, .map q4 k4 g4, .map q5 k5 g5]], g0), (q3, k3, .arr 3 (List.map eDNode r1), h3), (q4, k4, mapE (AV.int .i64) (.many [.i64, .i64, .i64]) r2, g4), (q5, k5, mapE (AV.int .i64) (.many [.i64, .i64, .i64]) r3, g5), (q1, k1, .arr 1 (List.map (AV.int .i64) order), g1), (q2, k2, .arr 1 (List.map (AV.int .i64) place), g2)])) :
    Ctr Try.prog 120 [.ptr q0 k0 g0 0 0, AV.int .i64 a, AV.int .i64 b] (stX S [(q0, k0, .arr 5 [.agg [.sl 1 q1 k1 g1 0 order.length, .sl 1 q2 k2 g2 0 place.length, .sl 3 q3 k3 g3 0 nodes.length, .map q4 k4 g4, .map q5 k5 g5]], g0), (q3, k3, .arr 3 (List.map eDNode nodes), g3), (q4, k4, mapE (AV.int .i64) (.many [.i64, .i64, .i64]) unique, g4), (q5, k5, mapE (AV.int .i64) (.many [.i64, .i64, .i64]) memo, g5), (q1, k1, .arr 1 (List.map (AV.int .i64) order), g1), (q2, k2, .arr 1 (List.map (AV.int .i64) place), g2)]) R := by
  unfold decision_Table__And__e_W at h
  refine enterT Try.func120 rfl Try.ntmps120 Try.results120 (by kernel_rfl) (fun rg hrg => ?_)
  have hdx : DX [(q0, k0, .arr 5 [.agg [.sl 1 q1 k1 g1 0 order.length, .sl 1 q2 k2 g2 0 place.length, .sl 3 q3 k3 g3 0 nodes.length, .map q4 k4 g4, .map q5 k5 g5]], g0), (q3, k3, .arr 3 (List.map eDNode nodes), g3), (q4, k4, mapE (AV.int .i64) (.many [.i64, .i64, .i64]) unique, g4), (q5, k5, mapE (AV.int .i64) (.many [.i64, .i64, .i64]) memo, g5), (q1, k1, .arr 1 (List.map (AV.int .i64) order), g1), (q2, k2, .arr 1 (List.map (AV.int .i64) place), g2)] := hdk
  have hfr := fun X' e => fresh_set (S := S) (rg := rg) (X := [(q0, k0, .arr 5 [.agg [.sl 1 q1 k1 g1 0 order.length, .sl 1 q2 k2 g2 0 place.length, .sl 3 q3 k3 g3 0 nodes.length, .map q4 k4 g4, .map q5 k5 g5]], g0), (q3, k3, .arr 3 (List.map eDNode nodes), g3), (q4, k4, mapE (AV.int .i64) (.many [.i64, .i64, .i64]) unique, g4), (q5, k5, mapE (AV.int .i64) (.many [.i64, .i64, .i64]) memo, g5), (q1, k1, .arr 1 (List.map (AV.int .i64) order), g1), (q2, k2, .arr 1 (List.map (AV.int .i64) place), g2)]) (X' := X') e hrg
  have hne0 := fresh_ne hdx hrg 0 rfl
  have hne3 := fresh_ne hdx hrg 1 rfl
  have hne4 := fresh_ne hdx hrg 2 rfl
  have hne5 := fresh_ne hdx hrg 3 rfl
  have hne1 := fresh_ne hdx hrg 4 rfl
  have hne2 := fresh_ne hdx hrg 5 rfl
  refine qZ (rZ (asZ (.int .i64 0) rfl (nZ (qZ (rZ (mvZ (.ptr q0 k0 g0 0 0) rfl (mvZ (.int .i64 a) rfl (mvZ (.int .i64 b) rfl ?_))))))))
  obtain ⟨_, h⟩ := h
  refine wZ rg (o_call (us := [.ptr q0 k0 g0 0 0, AV.int .i64 a, AV.int .i64 b, AV.int .i64 0]) rfl (vl' vr (vl' vr (vl' vr (vl' vr (vn))))) (ctrX (sx_c (atX hne0 hdx 0 rfl) (sx_c (atX hne3 hdx 1 rfl) (sx_c (atX hne4 hdx 2 rfl) (sx_c (atX hne5 hdx 3 rfl) (sx_c (atX hne1 hdx 4 rfl) (sx_c (atX hne2 hdx 5 rfl) (sx_n))))))) (decision_Table__Choose__e_ctr (dk_c (ni_c (dk_at 0 1 hdk rfl rfl rfl) (ni_c (dk_at 0 2 hdk rfl rfl rfl) (ni_c (dk_at 0 3 hdk rfl rfl rfl) (ni_c (dk_at 0 4 hdk rfl rfl rfl) (ni_c (dk_at 0 5 hdk rfl rfl rfl) (ni_n)))))) (dk_c (ni_c (dk_at 1 2 hdk rfl rfl rfl) (ni_c (dk_at 1 3 hdk rfl rfl rfl) (ni_c (dk_at 1 4 hdk rfl rfl rfl) (ni_c (dk_at 1 5 hdk rfl rfl rfl) (ni_n))))) (dk_c (ni_c (dk_at 2 3 hdk rfl rfl rfl) (ni_c (dk_at 2 4 hdk rfl rfl rfl) (ni_c (dk_at 2 5 hdk rfl rfl rfl) (ni_n)))) (dk_c (ni_c (dk_at 3 4 hdk rfl rfl rfl) (ni_c (dk_at 3 5 hdk rfl rfl rfl) (ni_n))) (dk_c (ni_c (dk_at 4 5 hdk rfl rfl rfl) (ni_n)) (dk_c (ni_n) (dk_n))))))) h fun u u1 u2 r g6 h => ?_)))
  refine Wl.eqS (sy_c (sy_c (sy_c (sy_c (sx_c (atX hne1 hdx 4 rfl) (sx_c (atX hne2 hdx 5 rfl) (sx_n))) (setX hne5 hdx 3 rfl rfl)) (setX hne4 hdx 2 rfl rfl)) (setX hne3 hdx 1 rfl rfl)) (setX hne0 hdx 0 rfl rfl)) ?_
  refine asZ (.int .i64 r) rfl (nZ ?_)
  refine Vc.ret' ?_
  refine res_tmp (v := .int .i64 r) rfl (res_nil ?_)
  show Gives _ (.int .i64 r) _
  exact gives_out (hfr _ rfl) (VW.refl _) (hQ _ _ _ _ _ h)
theorem decision_Table__Or__e_ctr {a : Int} {b : Int} {order : List Int} {place : List Int} {nodes : List GDNode} {unique : GMap Int} {memo : GMap Int} {q0 k0 g0 q1 k1 g1 q2 k2 g2 q3 k3 g3 q4 k4 g4 q5 k5 g5 : Nat} (hdk : DK [(q0, k0), (q3, k3), (q4, k4), (q5, k5), (q1, k1), (q2, k2)]) {Q : List GDNode → GMap Int → GMap Int → Int → Prop} {S : St} {R : AV → St → Prop} (h : decision_Table__Or__e_W a b order place nodes unique memo Q) (hQ : ∀ r1 r2 r3 r4, ∀ h3, Q r1 r2 r3 r4 → R (AV.int .i64 r4) (stX S [(q0, k0, .arr 5 [.agg [.sl 1 q1 k1 g1 0 order.length, .sl 1 q2 k2 g2 0 place.length, .sl 3 q3 k3 h3 0 r1.length, .map q4 k4 g4, .map q5 k5 g5]], g0), (q3, k3, .arr 3 (List.map eDNode r1), h3), (q4, k4, mapE (AV.int .i64) (.many [.i64, .i64, .i64]) r2, g4), (q5, k5, mapE (AV.int .i64) (.many [.i64, .i64, .i64]) r3, g5), (q1, k1, .arr 1 (List.map (AV.int .i64) order), g1), (q2, k2, .arr 1 (List.map (AV.int .i64) place), g2)])) :
    Ctr Try.prog 121 [.ptr q0 k0 g0 0 0, AV.int .i64 a, AV.int .i64 b] (stX S [(q0, k0, .arr 5 [.agg [.sl 1 q1 k1 g1 0 order.length, .sl 1 q2 k2 g2 0 place.length, .sl 3 q3 k3 g3 0 nodes.length, .map q4 k4 g4, .map q5 k5 g5]], g0), (q3, k3, .arr 3 (List.map eDNode nodes), g3), (q4, k4, mapE (AV.int .i64) (.many [.i64, .i64, .i64]) unique, g4), (q5, k5, mapE (AV.int .i64) (.many [.i64, .i64, .i64]) memo, g5), (q1, k1, .arr 1 (List.map (AV.int .i64) order), g1), (q2, k2, .arr 1 (List.map (AV.int .i64) place), g2)]) R := by
  unfold decision_Table__Or__e_W at h
  refine enterT Try.func121 rfl Try.ntmps121 Try.results121 (by kernel_rfl) (fun rg hrg => ?_)
  have hdx : DX [(q0, k0, .arr 5 [.agg [.sl 1 q1 k1 g1 0 order.length, .sl 1 q2 k2 g2 0 place.length, .sl 3 q3 k3 g3 0 nodes.length, .map q4 k4 g4, .map q5 k5 g5]], g0), (q3, k3, .arr 3 (List.map eDNode nodes), g3), (q4, k4, mapE (AV.int .i64) (.many [.i64, .i64, .i64]) unique, g4), (q5, k5, mapE (AV.int .i64) (.many [.i64, .i64, .i64]) memo, g5), (q1, k1, .arr 1 (List.map (AV.int .i64) order), g1), (q2, k2, .arr 1 (List.map (AV.int .i64) place), g2)] := hdk
  have hfr := fun X' e => fresh_set (S := S) (rg := rg) (X := [(q0, k0, .arr 5 [.agg [.sl 1 q1 k1 g1 0 order.length, .sl 1 q2 k2 g2 0 place.length, .sl 3 q3 k3 g3 0 nodes.length, .map q4 k4 g4, .map q5 k5 g5]], g0), (q3, k3, .arr 3 (List.map eDNode nodes), g3), (q4, k4, mapE (AV.int .i64) (.many [.i64, .i64, .i64]) unique, g4), (q5, k5, mapE (AV.int .i64) (.many [.i64, .i64, .i64]) memo, g5), (q1, k1, .arr 1 (List.map (AV.int .i64) order), g1), (q2, k2, .arr 1 (List.map (AV.int .i64) place), g2)]) (X' := X') e hrg
  have hne0 := fresh_ne hdx hrg 0 rfl
  have hne3 := fresh_ne hdx hrg 1 rfl
  have hne4 := fresh_ne hdx hrg 2 rfl
  have hne5 := fresh_ne hdx hrg 3 rfl
  have hne1 := fresh_ne hdx hrg 4 rfl
  have hne2 := fresh_ne hdx hrg 5 rfl
  refine qZ (rZ (asZ (.int .i64 0) rfl (nZ (qZ (rZ (mvZ (.ptr q0 k0 g0 0 0) rfl (mvZ (.int .i64 a) rfl (mvZ (.int .i64 b) rfl ?_))))))))
  obtain ⟨_, h⟩ := h
  refine wZ rg (o_call (us := [.ptr q0 k0 g0 0 0, AV.int .i64 a, AV.int .i64 1, AV.int .i64 b]) rfl (vl' vr (vl' vr (vl' vr (vl' vr (vn))))) (ctrX (sx_c (atX hne0 hdx 0 rfl) (sx_c (atX hne3 hdx 1 rfl) (sx_c (atX hne4 hdx 2 rfl) (sx_c (atX hne5 hdx 3 rfl) (sx_c (atX hne1 hdx 4 rfl) (sx_c (atX hne2 hdx 5 rfl) (sx_n))))))) (decision_Table__Choose__e_ctr (dk_c (ni_c (dk_at 0 1 hdk rfl rfl rfl) (ni_c (dk_at 0 2 hdk rfl rfl rfl) (ni_c (dk_at 0 3 hdk rfl rfl rfl) (ni_c (dk_at 0 4 hdk rfl rfl rfl) (ni_c (dk_at 0 5 hdk rfl rfl rfl) (ni_n)))))) (dk_c (ni_c (dk_at 1 2 hdk rfl rfl rfl) (ni_c (dk_at 1 3 hdk rfl rfl rfl) (ni_c (dk_at 1 4 hdk rfl rfl rfl) (ni_c (dk_at 1 5 hdk rfl rfl rfl) (ni_n))))) (dk_c (ni_c (dk_at 2 3 hdk rfl rfl rfl) (ni_c (dk_at 2 4 hdk rfl rfl rfl) (ni_c (dk_at 2 5 hdk rfl rfl rfl) (ni_n)))) (dk_c (ni_c (dk_at 3 4 hdk rfl rfl rfl) (ni_c (dk_at 3 5 hdk rfl rfl rfl) (ni_n))) (dk_c (ni_c (dk_at 4 5 hdk rfl rfl rfl) (ni_n)) (dk_c (ni_n) (dk_n))))))) h fun u u1 u2 r g6 h => ?_)))
  refine Wl.eqS (sy_c (sy_c (sy_c (sy_c (sx_c (atX hne1 hdx 4 rfl) (sx_c (atX hne2 hdx 5 rfl) (sx_n))) (setX hne5 hdx 3 rfl rfl)) (setX hne4 hdx 2 rfl rfl)) (setX hne3 hdx 1 rfl rfl)) (setX hne0 hdx 0 rfl rfl)) ?_
  refine asZ (.int .i64 r) rfl (nZ ?_)
  refine Vc.ret' ?_
  refine res_tmp (v := .int .i64 r) rfl (res_nil ?_)
  show Gives _ (.int .i64 r) _
  exact gives_out (hfr _ rfl) (VW.refl _) (hQ _ _ _ _ _ h)
theorem decision_Table__Xor__e_ctr {a : Int} {b : Int} {order : List Int} {place : List Int} {nodes : List GDNode} {unique : GMap Int} {memo : GMap Int} {q0 k0 g0 q1 k1 g1 q2 k2 g2 q3 k3 g3 q4 k4 g4 q5 k5 g5 : Nat} (hdk : DK [(q0, k0), (q3, k3), (q4, k4), (q5, k5), (q1, k1), (q2, k2)]) {Q : List GDNode → GMap Int → GMap Int → Int → Prop} {S : St} {R : AV → St → Prop} (h : decision_Table__Xor__e_W a b order place nodes unique memo Q) (hQ : ∀ r1 r2 r3 r4, ∀ h3, Q r1 r2 r3 r4 → R (AV.int .i64 r4) (stX S [(q0, k0, .arr 5 [.agg [.sl 1 q1 k1 g1 0 order.length, .sl 1 q2 k2 g2 0 place.length, .sl 3 q3 k3 h3 0 r1.length, .map q4 k4 g4, .map q5 k5 g5]], g0), (q3, k3, .arr 3 (List.map eDNode r1), h3), (q4, k4, mapE (AV.int .i64) (.many [.i64, .i64, .i64]) r2, g4), (q5, k5, mapE (AV.int .i64) (.many [.i64, .i64, .i64]) r3, g5), (q1, k1, .arr 1 (List.map (AV.int .i64) order), g1), (q2, k2, .arr 1 (List.map (AV.int .i64) place), g2)])) :
    Ctr Try.prog 122 [.ptr q0 k0 g0 0 0, AV.int .i64 a, AV.int .i64 b] (stX S [(q0, k0, .arr 5 [.agg [.sl 1 q1 k1 g1 0 order.length, .sl 1 q2 k2 g2 0 place.length, .sl 3 q3 k3 g3 0 nodes.length, .map q4 k4 g4, .map q5 k5 g5]], g0), (q3, k3, .arr 3 (List.map eDNode nodes), g3), (q4, k4, mapE (AV.int .i64) (.many [.i64, .i64, .i64]) unique, g4), (q5, k5, mapE (AV.int .i64) (.many [.i64, .i64, .i64]) memo, g5), (q1, k1, .arr 1 (List.map (AV.int .i64) order), g1), (q2, k2, .arr 1 (List.map (AV.int .i64) place), g2)]) R := by
  unfold decision_Table__Xor__e_W at h
  refine enterT Try.func122 rfl Try.ntmps122 Try.results122 (by kernel_rfl) (fun rg hrg => ?_)
  have hdx : DX [(q0, k0, .arr 5 [.agg [.sl 1 q1 k1 g1 0 order.length, .sl 1 q2 k2 g2 0 place.length, .sl 3 q3 k3 g3 0 nodes.length, .map q4 k4 g4, .map q5 k5 g5]], g0), (q3, k3, .arr 3 (List.map eDNode nodes), g3), (q4, k4, mapE (AV.int .i64) (.many [.i64, .i64, .i64]) unique, g4), (q5, k5, mapE (AV.int .i64) (.many [.i64, .i64, .i64]) memo, g5), (q1, k1, .arr 1 (List.map (AV.int .i64) order), g1), (q2, k2, .arr 1 (List.map (AV.int .i64) place), g2)] := hdk
  have hfr := fun X' e => fresh_set (S := S) (rg := rg) (X := [(q0, k0, .arr 5 [.agg [.sl 1 q1 k1 g1 0 order.length, .sl 1 q2 k2 g2 0 place.length, .sl 3 q3 k3 g3 0 nodes.length, .map q4 k4 g4, .map q5 k5 g5]], g0), (q3, k3, .arr 3 (List.map eDNode nodes), g3), (q4, k4, mapE (AV.int .i64) (.many [.i64, .i64, .i64]) unique, g4), (q5, k5, mapE (AV.int .i64) (.many [.i64, .i64, .i64]) memo, g5), (q1, k1, .arr 1 (List.map (AV.int .i64) order), g1), (q2, k2, .arr 1 (List.map (AV.int .i64) place), g2)]) (X' := X') e hrg
  have hne0 := fresh_ne hdx hrg 0 rfl
  have hne3 := fresh_ne hdx hrg 1 rfl
  have hne4 := fresh_ne hdx hrg 2 rfl
  have hne5 := fresh_ne hdx hrg 3 rfl
  have hne1 := fresh_ne hdx hrg 4 rfl
  have hne2 := fresh_ne hdx hrg 5 rfl
  refine qZ (rZ (asZ (.int .i64 0) rfl (nZ (qZ (rZ (mvZ (.ptr q0 k0 g0 0 0) rfl (mvZ (.int .i64 a) rfl (mvZ (.ptr q0 k0 g0 0 0) rfl (mvZ (.int .i64 b) rfl ?_)))))))))
  refine wZ rg (o_call (us := [.ptr q0 k0 g0 0 0, AV.int .i64 b]) rfl (vl' vr (vl' vr (vn))) (ctrX (sx_c (atX hne0 hdx 0 rfl) (sx_c (atX hne3 hdx 1 rfl) (sx_c (atX hne4 hdx 2 rfl) (sx_c (atX hne5 hdx 3 rfl) (sx_c (atX hne1 hdx 4 rfl) (sx_c (atX hne2 hdx 5 rfl) (sx_n))))))) (decision_Table__Not__e_ctr (dk_c (ni_c (dk_at 0 1 hdk rfl rfl rfl) (ni_c (dk_at 0 2 hdk rfl rfl rfl) (ni_c (dk_at 0 3 hdk rfl rfl rfl) (ni_c (dk_at 0 4 hdk rfl rfl rfl) (ni_c (dk_at 0 5 hdk rfl rfl rfl) (ni_n)))))) (dk_c (ni_c (dk_at 1 2 hdk rfl rfl rfl) (ni_c (dk_at 1 3 hdk rfl rfl rfl) (ni_c (dk_at 1 4 hdk rfl rfl rfl) (ni_c (dk_at 1 5 hdk rfl rfl rfl) (ni_n))))) (dk_c (ni_c (dk_at 2 3 hdk rfl rfl rfl) (ni_c (dk_at 2 4 hdk rfl rfl rfl) (ni_c (dk_at 2 5 hdk rfl rfl rfl) (ni_n)))) (dk_c (ni_c (dk_at 3 4 hdk rfl rfl rfl) (ni_c (dk_at 3 5 hdk rfl rfl rfl) (ni_n))) (dk_c (ni_c (dk_at 4 5 hdk rfl rfl rfl) (ni_n)) (dk_c (ni_n) (dk_n))))))) h fun u u1 u2 r g6 h => ?_)))
  refine Wl.eqS (sy_c (sy_c (sy_c (sy_c (sx_c (atX hne1 hdx 4 rfl) (sx_c (atX hne2 hdx 5 rfl) (sx_n))) (setX hne5 hdx 3 rfl rfl)) (setX hne4 hdx 2 rfl rfl)) (setX hne3 hdx 1 rfl rfl)) (setX hne0 hdx 0 rfl rfl)) ?_
  refine mvZ (.int .i64 b) rfl ?_
  obtain ⟨_, h⟩ := h
  refine wZ rg (o_call (us := [.ptr q0 k0 g0 0 0, AV.int .i64 a, AV.int .i64 r, AV.int .i64 b]) rfl (vl' vr (vl' vr (vl' vr (vl' vr (vn))))) (ctrX (sx_c (atX hne0 hdx 0 rfl) (sx_c (atX hne3 hdx 1 rfl) (sx_c (atX hne4 hdx 2 rfl) (sx_c (atX hne5 hdx 3 rfl) (sx_c (atX hne1 hdx 4 rfl) (sx_c (atX hne2 hdx 5 rfl) (sx_n))))))) (decision_Table__Choose__e_ctr (dk_c (ni_c (dk_at 0 1 hdk rfl rfl rfl) (ni_c (dk_at 0 2 hdk rfl rfl rfl) (ni_c (dk_at 0 3 hdk rfl rfl rfl) (ni_c (dk_at 0 4 hdk rfl rfl rfl) (ni_c (dk_at 0 5 hdk rfl rfl rfl) (ni_n)))))) (dk_c (ni_c (dk_at 1 2 hdk rfl rfl rfl) (ni_c (dk_at 1 3 hdk rfl rfl rfl) (ni_c (dk_at 1 4 hdk rfl rfl rfl) (ni_c (dk_at 1 5 hdk rfl rfl rfl) (ni_n))))) (dk_c (ni_c (dk_at 2 3 hdk rfl rfl rfl) (ni_c (dk_at 2 4 hdk rfl rfl rfl) (ni_c (dk_at 2 5 hdk rfl rfl rfl) (ni_n)))) (dk_c (ni_c (dk_at 3 4 hdk rfl rfl rfl) (ni_c (dk_at 3 5 hdk rfl rfl rfl) (ni_n))) (dk_c (ni_c (dk_at 4 5 hdk rfl rfl rfl) (ni_n)) (dk_c (ni_n) (dk_n))))))) h fun u3 u4 u5 r1 g7 h => ?_)))
  refine Wl.eqS (sy_c (sy_c (sy_c (sy_c (sx_c (atX hne1 hdx 4 rfl) (sx_c (atX hne2 hdx 5 rfl) (sx_n))) (setX hne5 hdx 3 rfl rfl)) (setX hne4 hdx 2 rfl rfl)) (setX hne3 hdx 1 rfl rfl)) (setX hne0 hdx 0 rfl rfl)) ?_
  refine asZ (.int .i64 r1) rfl (nZ ?_)
  refine Vc.ret' ?_
  refine res_tmp (v := .int .i64 r1) rfl (res_nil ?_)
  show Gives _ (.int .i64 r1) _
  exact gives_out (hfr _ rfl) (VW.refl _) (hQ _ _ _ _ _ h)
end Go.Proofs.Ytiamkdpljeemkaa
/- Walks of functions. Conditions: none. -/
namespace Go.Proofs.Ytiamkdpljeemkaa
open Go.Gg
set_option maxRecDepth 100000
theorem diagram_vote__e_ctr {refs : List Int} {k6 : Int} {order : List Int} {place : List Int} {nodes : List GDNode} {unique : GMap Int} {memo : GMap Int} {q0 k0 g0 q1 k1 g1 q2 k2 g2 q3 k3 g3 q4 k4 g4 q5 k5 g5 : Nat} (hdk : DK [(q0, k0), (q3, k3), (q4, k4), (q5, k5), (q1, k1), (q2, k2)]) {Q : List GDNode → GMap Int → GMap Int → Int → Prop} {S : St} {R : AV → St → Prop} (h : diagram_vote__e_W refs k6 order place nodes unique memo Q) (hQ : ∀ r1 r2 r3 r4, ∀ h3, Q r1 r2 r3 r4 → R (AV.int .i64 r4) (stX S [(q0, k0, .arr 5 [.agg [.sl 1 q1 k1 g1 0 order.length, .sl 1 q2 k2 g2 0 place.length, .sl 3 q3 k3 h3 0 r1.length, .map q4 k4 g4, .map q5 k5 g5]], g0), (q3, k3, .arr 3 (List.map eDNode r1), h3), (q4, k4, mapE (AV.int .i64) (.many [.i64, .i64, .i64]) r2, g4), (q5, k5, mapE (AV.int .i64) (.many [.i64, .i64, .i64]) r3, g5), (q1, k1, .arr 1 (List.map (AV.int .i64) order), g1), (q2, k2, .arr 1 (List.map (AV.int .i64) place), g2)])) :
    Ctr Try.prog 123 [.ptr q0 k0 g0 0 0, eL (AV.int .i64) refs, AV.int .i64 k6] (stX S [(q0, k0, .arr 5 [.agg [.sl 1 q1 k1 g1 0 order.length, .sl 1 q2 k2 g2 0 place.length, .sl 3 q3 k3 g3 0 nodes.length, .map q4 k4 g4, .map q5 k5 g5]], g0), (q3, k3, .arr 3 (List.map eDNode nodes), g3), (q4, k4, mapE (AV.int .i64) (.many [.i64, .i64, .i64]) unique, g4), (q5, k5, mapE (AV.int .i64) (.many [.i64, .i64, .i64]) memo, g5), (q1, k1, .arr 1 (List.map (AV.int .i64) order), g1), (q2, k2, .arr 1 (List.map (AV.int .i64) place), g2)]) R := by
  unfold diagram_vote__e_W at h
  refine enterT Try.func123 rfl Try.ntmps123 Try.results123 (by kernel_rfl) (fun rg hrg => ?_)
  have hdx : DX [(q0, k0, .arr 5 [.agg [.sl 1 q1 k1 g1 0 order.length, .sl 1 q2 k2 g2 0 place.length, .sl 3 q3 k3 g3 0 nodes.length, .map q4 k4 g4, .map q5 k5 g5]], g0), (q3, k3, .arr 3 (List.map eDNode nodes), g3), (q4, k4, mapE (AV.int .i64) (.many [.i64, .i64, .i64]) unique, g4), (q5, k5, mapE (AV.int .i64) (.many [.i64, .i64, .i64]) memo, g5), (q1, k1, .arr 1 (List.map (AV.int .i64) order), g1), (q2, k2, .arr 1 (List.map (AV.int .i64) place), g2)] := hdk
  have hfr := fun X' e => fresh_set (S := S) (rg := rg) (X := [(q0, k0, .arr 5 [.agg [.sl 1 q1 k1 g1 0 order.length, .sl 1 q2 k2 g2 0 place.length, .sl 3 q3 k3 g3 0 nodes.length, .map q4 k4 g4, .map q5 k5 g5]], g0), (q3, k3, .arr 3 (List.map eDNode nodes), g3), (q4, k4, mapE (AV.int .i64) (.many [.i64, .i64, .i64]) unique, g4), (q5, k5, mapE (AV.int .i64) (.many [.i64, .i64, .i64]) memo, g5), (q1, k1, .arr 1 (List.map (AV.int .i64) order), g1), (q2, k2, .arr 1 (List.map (AV.int .i64) place), g2)]) (X' := X') e hrg
  have hne0 := fresh_ne hdx hrg 0 rfl
  have hne3 := fresh_ne hdx hrg 1 rfl
  have hne4 := fresh_ne hdx hrg 2 rfl
  have hne5 := fresh_ne hdx hrg 3 rfl
  have hne1 := fresh_ne hdx hrg 4 rfl
  have hne2 := fresh_ne hdx hrg 5 rfl
  refine qZ (rZ (asZ (.int .i64 0) rfl (nZ (qZ (rZ (mvZ (.int .i64 k6) rfl (wZ rg (o_addG rfl rfl h.1 ?_))))))))
  replace h := h.2
  refine wZ rg (o_make td25 bts3 ok3 (enc := AV.int .i64) (z' := 0) zav3 (kk := 1) rfl rfl rfl h.1 (fun g6 => ?_))
  replace h := h.2
  refine asZ (.sl 1 rg 13 g6 0 (Int.toNat (k6 + 1))) rfl (nZ (qZ (rZ (mvZ (.sl 1 rg 13 g6 0 (Int.toNat (k6 + 1))) rfl (wZ rg (o_idxR0 td25 sz3 (by decide) rfl rfl h.1 ?_))))))
  have hi := h.1
  replace h := h.2
  refine wZ rg (o_storeR1 (atL (k := 13) rfl) sz3 (by decide) (x' := 1) (fun _ => rfl) rfl rfl (lt_of hi (by first | rfl | omega | (simp only [go_sem] <;> omega))) rfl rfl setL (nZ (qZ (qZ (rZ (mvZ (eL (AV.int .i64) refs) rfl (wZ rg (o_len td25 rfl (mvZ (.int .i64 0) rfl (nZ ?_))))))))))
  refine Vc.blk ?_
  obtain ⟨I, μ, h0, hI⟩ := h
  refine Vc.loop' (σ := ((Int × (List Int) × (List GDNode) × (GMap Int) × (GMap Int)) × (Nat))) (fun y => I y.1) (fun y => μ y.1) (fun y => envOf [(0, .ptr q0 k0 g0 0 0), (2, .int .i64 k6), (7, .sl 1 rg 13 g6 0 y.1.2.1.length), (16, eL (AV.int .i64) refs), (17, .int .i64 (refs.length : Int)), (18, .int .i64 y.1.1)]) (fun y => stL (stX S [(q0, k0, .arr 5 [.agg [.sl 1 q1 k1 g1 0 order.length, .sl 1 q2 k2 g2 0 place.length, .sl 3 q3 k3 y.2 0 y.1.2.2.1.length, .map q4 k4 g4, .map q5 k5 g5]], g0), (q3, k3, .arr 3 (List.map eDNode y.1.2.2.1), y.2), (q4, k4, mapE (AV.int .i64) (.many [.i64, .i64, .i64]) y.1.2.2.2.1, g4), (q5, k5, mapE (AV.int .i64) (.many [.i64, .i64, .i64]) y.1.2.2.2.2, g5), (q1, k1, .arr 1 (List.map (AV.int .i64) order), g1), (q2, k2, .arr 1 (List.map (AV.int .i64) place), g2)]) rg [(13, .arr 1 (List.map (AV.int .i64) y.1.2.1), g6)]) ((0, (set' (rep' (k6 + 1) 0) 0 1), nodes, unique, memo), g3) (canon (fc vr (fc vr (fc (VW.slen (by first | rfl | omega | (simp only [go_sem] <;> omega))) (fc vr (fc vr (fc vr (fn))))))) (sc rfl (sn))) h0 (fun y h => ?_)
  obtain ⟨⟨x, need, x1, x2, x3⟩, g7⟩ := y
  replace h := hI (x, need, x1, x2, x3) h
  show Vc _ _ _ _ (envOf [(0, .ptr q0 k0 g0 0 0), (2, .int .i64 k6), (7, .sl 1 rg 13 g6 0 need.length), (16, eL (AV.int .i64) refs), (17, .int .i64 (refs.length : Int)), (18, .int .i64 x)]) (stL (stX S [(q0, k0, .arr 5 [.agg [.sl 1 q1 k1 g1 0 order.length, .sl 1 q2 k2 g2 0 place.length, .sl 3 q3 k3 g7 0 x1.length, .map q4 k4 g4, .map q5 k5 g5]], g0), (q3, k3, .arr 3 (List.map eDNode x1), g7), (q4, k4, mapE (AV.int .i64) (.many [.i64, .i64, .i64]) x2, g4), (q5, k5, mapE (AV.int .i64) (.many [.i64, .i64, .i64]) x3, g5), (q1, k1, .arr 1 (List.map (AV.int .i64) order), g1), (q2, k2, .arr 1 (List.map (AV.int .i64) place), g2)]) rg [(13, .arr 1 (List.map (AV.int .i64) need), g6)])
  refine qZ (rZ (wZ rg (o_lss rfl rfl (nZ (qZ ?_)))))
  refine Vc.cond' rfl (fun hb => ?_) (fun hb => ?_)
  · replace h := h.1 hb
    refine Vc.skip' ?_
    refine qZ ?_
    refine Vc.blk ?_
    refine qZ (rZ (wZ rg (o_idxL td25 sz3 (by decide) (fun _ => rfl) rfl rfl h.1 ?_)))
    replace h := h.2
    refine wZ rg (o_loadI1 sz3 ag3 rfl rfl (v := .int .i64 (at' refs x)) rfl (asZ (.int .i64 (at' refs x)) rfl (nZ (qZ (rZ (mvZ (.int .i64 k6) rfl (asZ (.int .i64 k6) rfl (nZ ?_))))))))
    refine Vc.blk ?_
    obtain ⟨I, μ, h0, hI⟩ := h
    refine Vc.loop' (σ := ((Int × (List Int) × (List GDNode) × (GMap Int) × (GMap Int)) × (Nat))) (fun y => I y.1) (fun y => μ y.1) (fun y => envOf [(0, .ptr q0 k0 g0 0 0), (2, .int .i64 k6), (7, .sl 1 rg 13 g6 0 y.1.2.1.length), (9, .int .i64 (at' refs x)), (10, .int .i64 y.1.1), (16, eL (AV.int .i64) refs), (17, .int .i64 (refs.length : Int)), (18, .int .i64 x)]) (fun y => stL (stX S [(q0, k0, .arr 5 [.agg [.sl 1 q1 k1 g1 0 order.length, .sl 1 q2 k2 g2 0 place.length, .sl 3 q3 k3 y.2 0 y.1.2.2.1.length, .map q4 k4 g4, .map q5 k5 g5]], g0), (q3, k3, .arr 3 (List.map eDNode y.1.2.2.1), y.2), (q4, k4, mapE (AV.int .i64) (.many [.i64, .i64, .i64]) y.1.2.2.2.1, g4), (q5, k5, mapE (AV.int .i64) (.many [.i64, .i64, .i64]) y.1.2.2.2.2, g5), (q1, k1, .arr 1 (List.map (AV.int .i64) order), g1), (q2, k2, .arr 1 (List.map (AV.int .i64) place), g2)]) rg [(13, .arr 1 (List.map (AV.int .i64) y.1.2.1), g6)]) ((k6, need, x1, x2, x3), g7) (canon (fc vr (fc vr (fc vr (fc vr (fc vr (fc vr (fc vr (fc vr (fn))))))))) (sc rfl (sn))) h0 (fun y h => ?_)
    obtain ⟨⟨j, need1, x4, x5, x6⟩, g8⟩ := y
    replace h := hI (j, need1, x4, x5, x6) h
    show Vc _ _ _ _ (envOf [(0, .ptr q0 k0 g0 0 0), (2, .int .i64 k6), (7, .sl 1 rg 13 g6 0 need1.length), (9, .int .i64 (at' refs x)), (10, .int .i64 j), (16, eL (AV.int .i64) refs), (17, .int .i64 (refs.length : Int)), (18, .int .i64 x)]) (stL (stX S [(q0, k0, .arr 5 [.agg [.sl 1 q1 k1 g1 0 order.length, .sl 1 q2 k2 g2 0 place.length, .sl 3 q3 k3 g8 0 x4.length, .map q4 k4 g4, .map q5 k5 g5]], g0), (q3, k3, .arr 3 (List.map eDNode x4), g8), (q4, k4, mapE (AV.int .i64) (.many [.i64, .i64, .i64]) x5, g4), (q5, k5, mapE (AV.int .i64) (.many [.i64, .i64, .i64]) x6, g5), (q1, k1, .arr 1 (List.map (AV.int .i64) order), g1), (q2, k2, .arr 1 (List.map (AV.int .i64) place), g2)]) rg [(13, .arr 1 (List.map (AV.int .i64) need1), g6)])
    refine qZ (qZ (rZ (mvZ (.int .i64 j) rfl (wZ rg (o_gtr rfl rfl (nZ ?_))))))
    refine Vc.cond' rfl (fun hb1 => ?_) (fun hb1 => ?_)
    · replace h := h.1 hb1
      refine Vc.skip' ?_
      refine qZ ?_
      refine Vc.blk ?_
      have hg := h.1
      replace h := h.2
      have hi1 := h.1
      replace h := h.2
      have hi2 := h.1
      replace h := h.2
      obtain ⟨u, u1, u2, r, hc, h⟩ := h
      obtain ⟨_, hc⟩ := hc
      have hi3 := h.1
      replace h := h.2
      refine Vc.drawn' mixed rg (usOf [(13, wc (fun _ => .int .i64 r) [(q1, k1), (q2, k2)] [(q0, k0), (q3, k3), (q4, k4), (q5, k5)] (fun gm => [(q0, k0, .arr 5 [.agg [.sl 1 q1 k1 g1 0 order.length, .sl 1 q2 k2 g2 0 place.length, .sl 3 q3 k3 (gm 0) 0 u.length, .map q4 k4 g4, .map q5 k5 g5]], g0), (q3, k3, .arr 3 (List.map eDNode u), (gm 0)), (q4, k4, mapE (AV.int .i64) (.many [.i64, .i64, .i64]) u1, g4), (q5, k5, mapE (AV.int .i64) (.many [.i64, .i64, .i64]) u2, g5)]))]) (by kernel_rfl) ?_
      refine dP rfl rfl (o_move (v := .sl 1 rg 13 g6 0 need1.length) rfl (dP rfl rfl (o_move (v := .int .i64 j) rfl (dP rfl rfl (o_move (v := .ptr q0 k0 g0 0 0) rfl (dP rfl rfl (o_move (v := .int .i64 (at' refs x)) rfl (dP rfl rfl (o_move (v := .sl 1 rg 13 g6 0 need1.length) rfl (dP rfl rfl (o_move (v := .int .i64 j) rfl (dP rfl rfl (o_subG rfl rfl hg ?_)))))))))))))
      refine dP rfl rfl (o_idxR0 td25 sz3 (by decide) rfl rfl hi1 (dL (E := ([(rg, 13)], [])) rfl rfl (by simp) (cfn) (o_loadR1 (atL (k := 13) rfl) sz3 ag3 rfl (lt_of hi1 (by first | rfl | omega | (simp only [go_sem] <;> omega))) rfl (v := .int .i64 (at' need1 (j - 1))) rfl (dP rfl rfl (o_move (v := .sl 1 rg 13 g6 0 need1.length) rfl (dP rfl rfl (o_move (v := .int .i64 j) rfl ?_)))))))
      refine dP rfl rfl (o_idxR0 td25 sz3 (by decide) rfl rfl hi2 (dL (E := ([(rg, 13)], [])) rfl rfl (by simp) (cfa (by simp [apartE]) (cfn)) (o_loadR1 (atL (k := 13) rfl) sz3 ag3 rfl (lt_of hi2 (by first | rfl | omega | (simp only [go_sem] <;> omega))) rfl (v := .int .i64 (at' need1 j)) rfl ?_)))
      refine dCE (vs := [.ptr q0 k0 g0 0 0, AV.int .i64 (at' refs x), AV.int .i64 (at' need1 (j - 1)), AV.int .i64 (at' need1 j)]) (V := fun _ => .int .i64 r) (rd := [(q1, k1), (q2, k2)]) (wk := [(q0, k0), (q3, k3), (q4, k4), (q5, k5)]) (wr := fun gm => [(q0, k0, .arr 5 [.agg [.sl 1 q1 k1 g1 0 order.length, .sl 1 q2 k2 g2 0 place.length, .sl 3 q3 k3 (gm 0) 0 u.length, .map q4 k4 g4, .map q5 k5 g5]], g0), (q3, k3, .arr 3 (List.map eDNode u), (gm 0)), (q4, k4, mapE (AV.int .i64) (.many [.i64, .i64, .i64]) u1, g4), (q5, k5, mapE (AV.int .i64) (.many [.i64, .i64, .i64]) u2, g5)]) rfl (vl' vr (vl' vr (vl' vr (vl' vr (vn))))) rfl (cfo (by kernel_rfl) (cfo (by kernel_rfl) (cfn))) (by simp) (fun _ => rfl) (fun S' hA hB => ctrX (sx_c (ag hB 0 rfl (atX hne0 hdx 0 rfl)) (sx_c (ag hB 1 rfl (atX hne3 hdx 1 rfl)) (sx_c (ag hB 2 rfl (atX hne4 hdx 2 rfl)) (sx_c (ag hB 3 rfl (atX hne5 hdx 3 rfl)) (sx_c (ag hA 0 rfl (atX hne1 hdx 4 rfl)) (sx_c (ag hA 1 rfl (atX hne2 hdx 5 rfl)) (sx_n))))))) (decision_Table__Choose__e_ctr (dk_c (ni_c (dk_at 0 1 hdk rfl rfl rfl) (ni_c (dk_at 0 2 hdk rfl rfl rfl) (ni_c (dk_at 0 3 hdk rfl rfl rfl) (ni_c (dk_at 0 4 hdk rfl rfl rfl) (ni_c (dk_at 0 5 hdk rfl rfl rfl) (ni_n)))))) (dk_c (ni_c (dk_at 1 2 hdk rfl rfl rfl) (ni_c (dk_at 1 3 hdk rfl rfl rfl) (ni_c (dk_at 1 4 hdk rfl rfl rfl) (ni_c (dk_at 1 5 hdk rfl rfl rfl) (ni_n))))) (dk_c (ni_c (dk_at 2 3 hdk rfl rfl rfl) (ni_c (dk_at 2 4 hdk rfl rfl rfl) (ni_c (dk_at 2 5 hdk rfl rfl rfl) (ni_n)))) (dk_c (ni_c (dk_at 3 4 hdk rfl rfl rfl) (ni_c (dk_at 3 5 hdk rfl rfl rfl) (ni_n))) (dk_c (ni_c (dk_at 4 5 hdk rfl rfl rfl) (ni_n)) (dk_c (ni_n) (dk_n))))))) hc (fun _ _ _ _ h3 he => by obtain ⟨rfl, rfl, rfl, rfl⟩ := he; exact ⟨fun i => [h3].getD i 0, rfl, sm_c (sm_c (sm_c (sm_c (sx_c (ag hA 0 rfl (atX hne1 hdx 4 rfl)) (sx_c (ag hA 1 rfl (atX hne2 hdx 5 rfl)) (sx_n))))))⟩))) (fun gm => ?_)
      refine vdT.eqS (sa_c (sa_c (sa_c (sa_c (sa_n) (setX hne5 hdx 3 rfl rfl)) (setX hne4 hdx 2 rfl rfl)) (setX hne3 hdx 1 rfl rfl)) (setX hne0 hdx 0 rfl rfl)) ?_
      refine dP rfl rfl (o_idxR0 td25 sz3 (by decide) rfl rfl hi3 (dL (E := ([], [(rg, 13)])) rfl rfl (by simp) (cfo (by kernel_rfl) (cfo (by kernel_rfl) (cfo (by kernel_rfl) (cfn)))) (o_storeR1 (atL (k := 13) rfl) sz3 (by decide) (x' := r) (fun _ => rfl) rfl rfl (lt_of hi3 (by first | rfl | omega | (simp only [go_sem] <;> omega))) rfl rfl setL (dN (rZ (mvZ (.int .i64 j) rfl (wZ rg (o_subG rfl rfl h.1 ?_))))))))
      replace h := h.2
      refine asZ (.int .i64 (j - 1)) rfl (nZ ?_)
      exact ⟨(((j - 1), (set' need1 j r), u, u1, u2), (gm 0)), (canon (fc vr (fc vr (fc (VW.slen (by first | rfl | omega | (simp only [go_sem] <;> omega))) (fc vr (fc vr (fc vr (fc vr (fc vr (fn))))))))) (sc rfl (sn))), h⟩
    replace h := h.2 hb1
    refine Vc.exit' (exB_self ?_)
    refine rZ ?_
    refine wZ rg (o_addG rfl rfl h.1 ?_)
    replace h := h.2
    refine mvZ (.int .i64 (x + 1)) rfl (nZ ?_)
    exact ⟨(((x + 1), need1, x4, x5, x6), g8), (canon (fc vr (fc vr (fc vr (fc vr (fc vr (fc vr (fn))))))) (sc rfl (sn))), h⟩
  replace h := h.2 hb
  refine Vc.exit' (exB_self ?_)
  refine qZ (rZ (mvZ (.sl 1 rg 13 g6 0 need.length) rfl (mvZ (.int .i64 k6) rfl (wZ rg (o_idxR0 td25 sz3 (by decide) rfl rfl h.1 ?_)))))
  have hi4 := h.1
  replace h := h.2
  refine wZ rg (o_loadR1 (atL (k := 13) rfl) sz3 ag3 rfl (lt_of hi4 (by first | rfl | omega | (simp only [go_sem] <;> omega))) rfl (v := .int .i64 (at' need k6)) rfl (asZ (.int .i64 (at' need k6)) rfl (nZ ?_)))
  refine Vc.ret' ?_
  refine res_tmp (v := .int .i64 (at' need k6)) rfl (res_nil ?_)
  show Gives _ (.int .i64 (at' need k6)) _
  exact gives_out (hfr _ rfl) (VW.refl _) (hQ _ _ _ _ _ h)
theorem diagram_join__e_ctr {refs : List Int} {first : Int} {order : List Int} {place : List Int} {nodes : List GDNode} {unique : GMap Int} {memo : GMap Int} {q0 k0 g0 q1 k1 g1 q2 k2 g2 q3 k3 g3 q4 k4 g4 q5 k5 g5 : Nat} (hdk : DK [(q0, k0), (q3, k3), (q4, k4), (q5, k5), (q1, k1), (q2, k2)]) {Q : List GDNode → GMap Int → GMap Int → Int → Prop} {S : St} {R : AV → St → Prop} (h : diagram_join__e_W refs first order place nodes unique memo Q) (hQ : ∀ r1 r2 r3 r4, ∀ h3, Q r1 r2 r3 r4 → R (AV.int .i64 r4) (stX S [(q0, k0, .arr 5 [.agg [.sl 1 q1 k1 g1 0 order.length, .sl 1 q2 k2 g2 0 place.length, .sl 3 q3 k3 h3 0 r1.length, .map q4 k4 g4, .map q5 k5 g5]], g0), (q3, k3, .arr 3 (List.map eDNode r1), h3), (q4, k4, mapE (AV.int .i64) (.many [.i64, .i64, .i64]) r2, g4), (q5, k5, mapE (AV.int .i64) (.many [.i64, .i64, .i64]) r3, g5), (q1, k1, .arr 1 (List.map (AV.int .i64) order), g1), (q2, k2, .arr 1 (List.map (AV.int .i64) place), g2)])) :
    Ctr Try.prog 119 [eL (AV.int .i64) refs, AV.int .i64 first, .fn (.func 120) [.ptr q0 k0 g0 0 0] []] (stX S [(q0, k0, .arr 5 [.agg [.sl 1 q1 k1 g1 0 order.length, .sl 1 q2 k2 g2 0 place.length, .sl 3 q3 k3 g3 0 nodes.length, .map q4 k4 g4, .map q5 k5 g5]], g0), (q3, k3, .arr 3 (List.map eDNode nodes), g3), (q4, k4, mapE (AV.int .i64) (.many [.i64, .i64, .i64]) unique, g4), (q5, k5, mapE (AV.int .i64) (.many [.i64, .i64, .i64]) memo, g5), (q1, k1, .arr 1 (List.map (AV.int .i64) order), g1), (q2, k2, .arr 1 (List.map (AV.int .i64) place), g2)]) R := by
  unfold diagram_join__e_W at h
  refine enterT Try.func119 rfl Try.ntmps119 Try.results119 (by kernel_rfl) (fun rg hrg => ?_)
  have hdx : DX [(q0, k0, .arr 5 [.agg [.sl 1 q1 k1 g1 0 order.length, .sl 1 q2 k2 g2 0 place.length, .sl 3 q3 k3 g3 0 nodes.length, .map q4 k4 g4, .map q5 k5 g5]], g0), (q3, k3, .arr 3 (List.map eDNode nodes), g3), (q4, k4, mapE (AV.int .i64) (.many [.i64, .i64, .i64]) unique, g4), (q5, k5, mapE (AV.int .i64) (.many [.i64, .i64, .i64]) memo, g5), (q1, k1, .arr 1 (List.map (AV.int .i64) order), g1), (q2, k2, .arr 1 (List.map (AV.int .i64) place), g2)] := hdk
  have hfr := fun X' e => fresh_set (S := S) (rg := rg) (X := [(q0, k0, .arr 5 [.agg [.sl 1 q1 k1 g1 0 order.length, .sl 1 q2 k2 g2 0 place.length, .sl 3 q3 k3 g3 0 nodes.length, .map q4 k4 g4, .map q5 k5 g5]], g0), (q3, k3, .arr 3 (List.map eDNode nodes), g3), (q4, k4, mapE (AV.int .i64) (.many [.i64, .i64, .i64]) unique, g4), (q5, k5, mapE (AV.int .i64) (.many [.i64, .i64, .i64]) memo, g5), (q1, k1, .arr 1 (List.map (AV.int .i64) order), g1), (q2, k2, .arr 1 (List.map (AV.int .i64) place), g2)]) (X' := X') e hrg
  have hne0 := fresh_ne hdx hrg 0 rfl
  have hne3 := fresh_ne hdx hrg 1 rfl
  have hne4 := fresh_ne hdx hrg 2 rfl
  have hne5 := fresh_ne hdx hrg 3 rfl
  have hne1 := fresh_ne hdx hrg 4 rfl
  have hne2 := fresh_ne hdx hrg 5 rfl
  refine qZ (rZ (asZ (.int .i64 0) rfl (nZ (qZ (qZ (rZ (mvZ (eL (AV.int .i64) refs) rfl (wZ rg (o_len td25 rfl (mvZ (.int .i64 0) rfl (nZ ?_)))))))))))
  refine Vc.blk ?_
  obtain ⟨I, μ, h0, hI⟩ := h
  refine Vc.loop' (σ := ((Int × Int × (List GDNode) × (GMap Int) × (GMap Int)) × (Nat))) (fun y => I y.1) (fun y => μ y.1) (fun y => envOf [(1, .int .i64 y.1.1), (2, .fn (.func 120) [.ptr q0 k0 g0 0 0] []), (9, eL (AV.int .i64) refs), (10, .int .i64 (refs.length : Int)), (11, .int .i64 y.1.2.1)]) (fun y => stL (stX S [(q0, k0, .arr 5 [.agg [.sl 1 q1 k1 g1 0 order.length, .sl 1 q2 k2 g2 0 place.length, .sl 3 q3 k3 y.2 0 y.1.2.2.1.length, .map q4 k4 g4, .map q5 k5 g5]], g0), (q3, k3, .arr 3 (List.map eDNode y.1.2.2.1), y.2), (q4, k4, mapE (AV.int .i64) (.many [.i64, .i64, .i64]) y.1.2.2.2.1, g4), (q5, k5, mapE (AV.int .i64) (.many [.i64, .i64, .i64]) y.1.2.2.2.2, g5), (q1, k1, .arr 1 (List.map (AV.int .i64) order), g1), (q2, k2, .arr 1 (List.map (AV.int .i64) place), g2)]) rg []) ((first, 0, nodes, unique, memo), g3) (canon (fc vr (fc vr (fc vr (fc vr (fc vr (fn)))))) (sn)) h0 (fun y h => ?_)
  obtain ⟨⟨first1, x, x1, x2, x3⟩, g6⟩ := y
  replace h := hI (first1, x, x1, x2, x3) h
  show Vc _ _ _ _ (envOf [(1, .int .i64 first1), (2, .fn (.func 120) [.ptr q0 k0 g0 0 0] []), (9, eL (AV.int .i64) refs), (10, .int .i64 (refs.length : Int)), (11, .int .i64 x)]) (stL (stX S [(q0, k0, .arr 5 [.agg [.sl 1 q1 k1 g1 0 order.length, .sl 1 q2 k2 g2 0 place.length, .sl 3 q3 k3 g6 0 x1.length, .map q4 k4 g4, .map q5 k5 g5]], g0), (q3, k3, .arr 3 (List.map eDNode x1), g6), (q4, k4, mapE (AV.int .i64) (.many [.i64, .i64, .i64]) x2, g4), (q5, k5, mapE (AV.int .i64) (.many [.i64, .i64, .i64]) x3, g5), (q1, k1, .arr 1 (List.map (AV.int .i64) order), g1), (q2, k2, .arr 1 (List.map (AV.int .i64) place), g2)]) rg [])
  refine qZ (rZ (wZ rg (o_lss rfl rfl (nZ (qZ ?_)))))
  refine Vc.cond' rfl (fun hb => ?_) (fun hb => ?_)
  · replace h := h.1 hb
    refine Vc.skip' ?_
    refine qZ ?_
    refine Vc.blk ?_
    refine qZ (rZ (wZ rg (o_idxL td25 sz3 (by decide) (fun _ => rfl) rfl rfl h.1 ?_)))
    replace h := h.2
    refine wZ rg (o_loadI1 sz3 ag3 rfl rfl (v := .int .i64 (at' refs x)) rfl (asZ (.int .i64 (at' refs x)) rfl (nZ (rZ (mvZ (.fn (.func 120) [.ptr q0 k0 g0 0 0] []) rfl (mvZ (.int .i64 first1) rfl (mvZ (.int .i64 (at' refs x)) rfl ?_)))))))
    refine wZ rg (o_call (us := [.ptr q0 k0 g0 0 0, AV.int .i64 first1, AV.int .i64 (at' refs x)]) rfl (vl' vr (vl' vr (vl' vr (vn)))) (ctrX (sx_c (atX hne0 hdx 0 rfl) (sx_c (atX hne3 hdx 1 rfl) (sx_c (atX hne4 hdx 2 rfl) (sx_c (atX hne5 hdx 3 rfl) (sx_c (atX hne1 hdx 4 rfl) (sx_c (atX hne2 hdx 5 rfl) (sx_n))))))) (decision_Table__And__e_ctr (dk_c (ni_c (dk_at 0 1 hdk rfl rfl rfl) (ni_c (dk_at 0 2 hdk rfl rfl rfl) (ni_c (dk_at 0 3 hdk rfl rfl rfl) (ni_c (dk_at 0 4 hdk rfl rfl rfl) (ni_c (dk_at 0 5 hdk rfl rfl rfl) (ni_n)))))) (dk_c (ni_c (dk_at 1 2 hdk rfl rfl rfl) (ni_c (dk_at 1 3 hdk rfl rfl rfl) (ni_c (dk_at 1 4 hdk rfl rfl rfl) (ni_c (dk_at 1 5 hdk rfl rfl rfl) (ni_n))))) (dk_c (ni_c (dk_at 2 3 hdk rfl rfl rfl) (ni_c (dk_at 2 4 hdk rfl rfl rfl) (ni_c (dk_at 2 5 hdk rfl rfl rfl) (ni_n)))) (dk_c (ni_c (dk_at 3 4 hdk rfl rfl rfl) (ni_c (dk_at 3 5 hdk rfl rfl rfl) (ni_n))) (dk_c (ni_c (dk_at 4 5 hdk rfl rfl rfl) (ni_n)) (dk_c (ni_n) (dk_n))))))) h fun u u1 u2 first2 g7 h => ?_)))
    refine Wl.eqS (sy_c (sy_c (sy_c (sy_c (sx_c (atX hne1 hdx 4 rfl) (sx_c (atX hne2 hdx 5 rfl) (sx_n))) (setX hne5 hdx 3 rfl rfl)) (setX hne4 hdx 2 rfl rfl)) (setX hne3 hdx 1 rfl rfl)) (setX hne0 hdx 0 rfl rfl)) ?_
    refine asZ (.int .i64 first2) rfl (nZ (rZ (wZ rg (o_addG rfl rfl h.1 ?_))))
    replace h := h.2
    refine mvZ (.int .i64 (x + 1)) rfl (nZ ?_)
    exact ⟨((first2, (x + 1), u, u1, u2), g7), (canon (fc vr (fc vr (fc vr (fc vr (fc vr (fn)))))) (sn)), h⟩
  replace h := h.2 hb
  refine Vc.exit' (exB_self ?_)
  refine qZ (rZ (mvZ (.int .i64 first1) rfl (asZ (.int .i64 first1) rfl (nZ ?_))))
  refine Vc.ret' ?_
  refine res_tmp (v := .int .i64 first1) rfl (res_nil ?_)
  show Gives _ (.int .i64 first1) _
  exact gives_out (hfr _ rfl) (VW.refl _) (hQ _ _ _ _ _ h)
theorem diagram_join__e2_ctr {refs : List Int} {first : Int} {order : List Int} {place : List Int} {nodes : List GDNode} {unique : GMap Int} {memo : GMap Int} {q0 k0 g0 q1 k1 g1 q2 k2 g2 q3 k3 g3 q4 k4 g4 q5 k5 g5 : Nat} (hdk : DK [(q0, k0), (q3, k3), (q4, k4), (q5, k5), (q1, k1), (q2, k2)]) {Q : List GDNode → GMap Int → GMap Int → Int → Prop} {S : St} {R : AV → St → Prop} (h : diagram_join__e2_W refs first order place nodes unique memo Q) (hQ : ∀ r1 r2 r3 r4, ∀ h3, Q r1 r2 r3 r4 → R (AV.int .i64 r4) (stX S [(q0, k0, .arr 5 [.agg [.sl 1 q1 k1 g1 0 order.length, .sl 1 q2 k2 g2 0 place.length, .sl 3 q3 k3 h3 0 r1.length, .map q4 k4 g4, .map q5 k5 g5]], g0), (q3, k3, .arr 3 (List.map eDNode r1), h3), (q4, k4, mapE (AV.int .i64) (.many [.i64, .i64, .i64]) r2, g4), (q5, k5, mapE (AV.int .i64) (.many [.i64, .i64, .i64]) r3, g5), (q1, k1, .arr 1 (List.map (AV.int .i64) order), g1), (q2, k2, .arr 1 (List.map (AV.int .i64) place), g2)])) :
    Ctr Try.prog 119 [eL (AV.int .i64) refs, AV.int .i64 first, .fn (.func 121) [.ptr q0 k0 g0 0 0] []] (stX S [(q0, k0, .arr 5 [.agg [.sl 1 q1 k1 g1 0 order.length, .sl 1 q2 k2 g2 0 place.length, .sl 3 q3 k3 g3 0 nodes.length, .map q4 k4 g4, .map q5 k5 g5]], g0), (q3, k3, .arr 3 (List.map eDNode nodes), g3), (q4, k4, mapE (AV.int .i64) (.many [.i64, .i64, .i64]) unique, g4), (q5, k5, mapE (AV.int .i64) (.many [.i64, .i64, .i64]) memo, g5), (q1, k1, .arr 1 (List.map (AV.int .i64) order), g1), (q2, k2, .arr 1 (List.map (AV.int .i64) place), g2)]) R := by
  unfold diagram_join__e2_W at h
  refine enterT Try.func119 rfl Try.ntmps119 Try.results119 (by kernel_rfl) (fun rg hrg => ?_)
  have hdx : DX [(q0, k0, .arr 5 [.agg [.sl 1 q1 k1 g1 0 order.length, .sl 1 q2 k2 g2 0 place.length, .sl 3 q3 k3 g3 0 nodes.length, .map q4 k4 g4, .map q5 k5 g5]], g0), (q3, k3, .arr 3 (List.map eDNode nodes), g3), (q4, k4, mapE (AV.int .i64) (.many [.i64, .i64, .i64]) unique, g4), (q5, k5, mapE (AV.int .i64) (.many [.i64, .i64, .i64]) memo, g5), (q1, k1, .arr 1 (List.map (AV.int .i64) order), g1), (q2, k2, .arr 1 (List.map (AV.int .i64) place), g2)] := hdk
  have hfr := fun X' e => fresh_set (S := S) (rg := rg) (X := [(q0, k0, .arr 5 [.agg [.sl 1 q1 k1 g1 0 order.length, .sl 1 q2 k2 g2 0 place.length, .sl 3 q3 k3 g3 0 nodes.length, .map q4 k4 g4, .map q5 k5 g5]], g0), (q3, k3, .arr 3 (List.map eDNode nodes), g3), (q4, k4, mapE (AV.int .i64) (.many [.i64, .i64, .i64]) unique, g4), (q5, k5, mapE (AV.int .i64) (.many [.i64, .i64, .i64]) memo, g5), (q1, k1, .arr 1 (List.map (AV.int .i64) order), g1), (q2, k2, .arr 1 (List.map (AV.int .i64) place), g2)]) (X' := X') e hrg
  have hne0 := fresh_ne hdx hrg 0 rfl
  have hne3 := fresh_ne hdx hrg 1 rfl
  have hne4 := fresh_ne hdx hrg 2 rfl
  have hne5 := fresh_ne hdx hrg 3 rfl
  have hne1 := fresh_ne hdx hrg 4 rfl
  have hne2 := fresh_ne hdx hrg 5 rfl
  refine qZ (rZ (asZ (.int .i64 0) rfl (nZ (qZ (qZ (rZ (mvZ (eL (AV.int .i64) refs) rfl (wZ rg (o_len td25 rfl (mvZ (.int .i64 0) rfl (nZ ?_)))))))))))
  refine Vc.blk ?_
  obtain ⟨I, μ, h0, hI⟩ := h
  refine Vc.loop' (σ := ((Int × Int × (List GDNode) × (GMap Int) × (GMap Int)) × (Nat))) (fun y => I y.1) (fun y => μ y.1) (fun y => envOf [(1, .int .i64 y.1.1), (2, .fn (.func 121) [.ptr q0 k0 g0 0 0] []), (9, eL (AV.int .i64) refs), (10, .int .i64 (refs.length : Int)), (11, .int .i64 y.1.2.1)]) (fun y => stL (stX S [(q0, k0, .arr 5 [.agg [.sl 1 q1 k1 g1 0 order.length, .sl 1 q2 k2 g2 0 place.length, .sl 3 q3 k3 y.2 0 y.1.2.2.1.length, .map q4 k4 g4, .map q5 k5 g5]], g0), (q3, k3, .arr 3 (List.map eDNode y.1.2.2.1), y.2), (q4, k4, mapE (AV.int .i64) (.many [.i64, .i64, .i64]) y.1.2.2.2.1, g4), (q5, k5, mapE (AV.int .i64) (.many [.i64, .i64, .i64]) y.1.2.2.2.2, g5), (q1, k1, .arr 1 (List.map (AV.int .i64) order), g1), (q2, k2, .arr 1 (List.map (AV.int .i64) place), g2)]) rg []) ((first, 0, nodes, unique, memo), g3) (canon (fc vr (fc vr (fc vr (fc vr (fc vr (fn)))))) (sn)) h0 (fun y h => ?_)
  obtain ⟨⟨first1, x, x1, x2, x3⟩, g6⟩ := y
  replace h := hI (first1, x, x1, x2, x3) h
  show Vc _ _ _ _ (envOf [(1, .int .i64 first1), (2, .fn (.func 121) [.ptr q0 k0 g0 0 0] []), (9, eL (AV.int .i64) refs), (10, .int .i64 (refs.length : Int)), (11, .int .i64 x)]) (stL (stX S [(q0, k0, .arr 5 [.agg [.sl 1 q1 k1 g1 0 order.length, .sl 1 q2 k2 g2 0 place.length, .sl 3 q3 k3 g6 0 x1.length, .map q4 k4 g4, .map q5 k5 g5]], g0), (q3, k3, .arr 3 (List.map eDNode x1), g6), (q4, k4, mapE (AV.int .i64) (.many [.i64, .i64, .i64]) x2, g4), (q5, k5, mapE (AV.int .i64) (.many [.i64, .i64, .i64]) x3, g5), (q1, k1, .arr 1 (List.map (AV.int .i64) order), g1), (q2, k2, .arr 1 (List.map (AV.int .i64) place), g2)]) rg [])
  refine qZ (rZ (wZ rg (o_lss rfl rfl (nZ (qZ ?_)))))
  refine Vc.cond' rfl (fun hb => ?_) (fun hb => ?_)
  · replace h := h.1 hb
    refine Vc.skip' ?_
    refine qZ ?_
    refine Vc.blk ?_
    refine qZ (rZ (wZ rg (o_idxL td25 sz3 (by decide) (fun _ => rfl) rfl rfl h.1 ?_)))
    replace h := h.2
    refine wZ rg (o_loadI1 sz3 ag3 rfl rfl (v := .int .i64 (at' refs x)) rfl (asZ (.int .i64 (at' refs x)) rfl (nZ (rZ (mvZ (.fn (.func 121) [.ptr q0 k0 g0 0 0] []) rfl (mvZ (.int .i64 first1) rfl (mvZ (.int .i64 (at' refs x)) rfl ?_)))))))
    refine wZ rg (o_call (us := [.ptr q0 k0 g0 0 0, AV.int .i64 first1, AV.int .i64 (at' refs x)]) rfl (vl' vr (vl' vr (vl' vr (vn)))) (ctrX (sx_c (atX hne0 hdx 0 rfl) (sx_c (atX hne3 hdx 1 rfl) (sx_c (atX hne4 hdx 2 rfl) (sx_c (atX hne5 hdx 3 rfl) (sx_c (atX hne1 hdx 4 rfl) (sx_c (atX hne2 hdx 5 rfl) (sx_n))))))) (decision_Table__Or__e_ctr (dk_c (ni_c (dk_at 0 1 hdk rfl rfl rfl) (ni_c (dk_at 0 2 hdk rfl rfl rfl) (ni_c (dk_at 0 3 hdk rfl rfl rfl) (ni_c (dk_at 0 4 hdk rfl rfl rfl) (ni_c (dk_at 0 5 hdk rfl rfl rfl) (ni_n)))))) (dk_c (ni_c (dk_at 1 2 hdk rfl rfl rfl) (ni_c (dk_at 1 3 hdk rfl rfl rfl) (ni_c (dk_at 1 4 hdk rfl rfl rfl) (ni_c (dk_at 1 5 hdk rfl rfl rfl) (ni_n))))) (dk_c (ni_c (dk_at 2 3 hdk rfl rfl rfl) (ni_c (dk_at 2 4 hdk rfl rfl rfl) (ni_c (dk_at 2 5 hdk rfl rfl rfl) (ni_n)))) (dk_c (ni_c (dk_at 3 4 hdk rfl rfl rfl) (ni_c (dk_at 3 5 hdk rfl rfl rfl) (ni_n))) (dk_c (ni_c (dk_at 4 5 hdk rfl rfl rfl) (ni_n)) (dk_c (ni_n) (dk_n))))))) h fun u u1 u2 first2 g7 h => ?_)))
    refine Wl.eqS (sy_c (sy_c (sy_c (sy_c (sx_c (atX hne1 hdx 4 rfl) (sx_c (atX hne2 hdx 5 rfl) (sx_n))) (setX hne5 hdx 3 rfl rfl)) (setX hne4 hdx 2 rfl rfl)) (setX hne3 hdx 1 rfl rfl)) (setX hne0 hdx 0 rfl rfl)) ?_
    refine asZ (.int .i64 first2) rfl (nZ (rZ (wZ rg (o_addG rfl rfl h.1 ?_))))
    replace h := h.2
    refine mvZ (.int .i64 (x + 1)) rfl (nZ ?_)
    exact ⟨((first2, (x + 1), u, u1, u2), g7), (canon (fc vr (fc vr (fc vr (fc vr (fc vr (fn)))))) (sn)), h⟩
  replace h := h.2 hb
  refine Vc.exit' (exB_self ?_)
  refine qZ (rZ (mvZ (.int .i64 first1) rfl (asZ (.int .i64 first1) rfl (nZ ?_))))
  refine Vc.ret' ?_
  refine res_tmp (v := .int .i64 first1) rfl (res_nil ?_)
  show Gives _ (.int .i64 first1) _
  exact gives_out (hfr _ rfl) (VW.refl _) (hQ _ _ _ _ _ h)
theorem diagram_join__e3_ctr {refs : List Int} {first : Int} {order : List Int} {place : List Int} {nodes : List GDNode} {unique : GMap Int} {memo : GMap Int} {q0 k0 g0 q1 k1 g1 q2 k2 g2 q3 k3 g3 q4 k4 g4 q5 k5 g5 : Nat} (hdk : DK [(q0, k0), (q3, k3), (q4, k4), (q5, k5), (q1, k1), (q2, k2)]) {Q : List GDNode → GMap Int → GMap Int → Int → Prop} {S : St} {R : AV → St → Prop} (h : diagram_join__e3_W refs first order place nodes unique memo Q) (hQ : ∀ r1 r2 r3 r4, ∀ h3, Q r1 r2 r3 r4 → R (AV.int .i64 r4) (stX S [(q0, k0, .arr 5 [.agg [.sl 1 q1 k1 g1 0 order.length, .sl 1 q2 k2 g2 0 place.length, .sl 3 q3 k3 h3 0 r1.length, .map q4 k4 g4, .map q5 k5 g5]], g0), (q3, k3, .arr 3 (List.map eDNode r1), h3), (q4, k4, mapE (AV.int .i64) (.many [.i64, .i64, .i64]) r2, g4), (q5, k5, mapE (AV.int .i64) (.many [.i64, .i64, .i64]) r3, g5), (q1, k1, .arr 1 (List.map (AV.int .i64) order), g1), (q2, k2, .arr 1 (List.map (AV.int .i64) place), g2)])) :
    Ctr Try.prog 119 [eL (AV.int .i64) refs, AV.int .i64 first, .fn (.func 122) [.ptr q0 k0 g0 0 0] []] (stX S [(q0, k0, .arr 5 [.agg [.sl 1 q1 k1 g1 0 order.length, .sl 1 q2 k2 g2 0 place.length, .sl 3 q3 k3 g3 0 nodes.length, .map q4 k4 g4, .map q5 k5 g5]], g0), (q3, k3, .arr 3 (List.map eDNode nodes), g3), (q4, k4, mapE (AV.int .i64) (.many [.i64, .i64, .i64]) unique, g4), (q5, k5, mapE (AV.int .i64) (.many [.i64, .i64, .i64]) memo, g5), (q1, k1, .arr 1 (List.map (AV.int .i64) order), g1), (q2, k2, .arr 1 (List.map (AV.int .i64) place), g2)]) R := by
  unfold diagram_join__e3_W at h
  refine enterT Try.func119 rfl Try.ntmps119 Try.results119 (by kernel_rfl) (fun rg hrg => ?_)
  have hdx : DX [(q0, k0, .arr 5 [.agg [.sl 1 q1 k1 g1 0 order.length, .sl 1 q2 k2 g2 0 place.length, .sl 3 q3 k3 g3 0 nodes.length, .map q4 k4 g4, .map q5 k5 g5]], g0), (q3, k3, .arr 3 (List.map eDNode nodes), g3), (q4, k4, mapE (AV.int .i64) (.many [.i64, .i64, .i64]) unique, g4), (q5, k5, mapE (AV.int .i64) (.many [.i64, .i64, .i64]) memo, g5), (q1, k1, .arr 1 (List.map (AV.int .i64) order), g1), (q2, k2, .arr 1 (List.map (AV.int .i64) place), g2)] := hdk
  have hfr := fun X' e => fresh_set (S := S) (rg := rg) (X := [(q0, k0, .arr 5 [.agg [.sl 1 q1 k1 g1 0 order.length, .sl 1 q2 k2 g2 0 place.length, .sl 3 q3 k3 g3 0 nodes.length, .map q4 k4 g4, .map q5 k5 g5]], g0), (q3, k3, .arr 3 (List.map eDNode nodes), g3), (q4, k4, mapE (AV.int .i64) (.many [.i64, .i64, .i64]) unique, g4), (q5, k5, mapE (AV.int .i64) (.many [.i64, .i64, .i64]) memo, g5), (q1, k1, .arr 1 (List.map (AV.int .i64) order), g1), (q2, k2, .arr 1 (List.map (AV.int .i64) place), g2)]) (X' := X') e hrg
  have hne0 := fresh_ne hdx hrg 0 rfl
  have hne3 := fresh_ne hdx hrg 1 rfl
  have hne4 := fresh_ne hdx hrg 2 rfl
  have hne5 := fresh_ne hdx hrg 3 rfl
  have hne1 := fresh_ne hdx hrg 4 rfl
  have hne2 := fresh_ne hdx hrg 5 rfl
  refine qZ (rZ (asZ (.int .i64 0) rfl (nZ (qZ (qZ (rZ (mvZ (eL (AV.int .i64) refs) rfl (wZ rg (o_len td25 rfl (mvZ (.int .i64 0) rfl (nZ ?_)))))))))))
  refine Vc.blk ?_
  obtain ⟨I, μ, h0, hI⟩ := h
  refine Vc.loop' (σ := ((Int × Int × (List GDNode) × (GMap Int) × (GMap Int)) × (Nat))) (fun y => I y.1) (fun y => μ y.1) (fun y => envOf [(1, .int .i64 y.1.1), (2, .fn (.func 122) [.ptr q0 k0 g0 0 0] []), (9, eL (AV.int .i64) refs), (10, .int .i64 (refs.length : Int)), (11, .int .i64 y.1.2.1)]) (fun y => stL (stX S [(q0, k0, .arr 5 [.agg [.sl 1 q1 k1 g1 0 order.length, .sl 1 q2 k2 g2 0 place.length, .sl 3 q3 k3 y.2 0 y.1.2.2.1.length, .map q4 k4 g4, .map q5 k5 g5]], g0), (q3, k3, .arr 3 (List.map eDNode y.1.2.2.1), y.2), (q4, k4, mapE (AV.int .i64) (.many [.i64, .i64, .i64]) y.1.2.2.2.1, g4), (q5, k5, mapE (AV.int .i64) (.many [.i64, .i64, .i64]) y.1.2.2.2.2, g5), (q1, k1, .arr 1 (List.map (AV.int .i64) order), g1), (q2, k2, .arr 1 (List.map (AV.int .i64) place), g2)]) rg []) ((first, 0, nodes, unique, memo), g3) (canon (fc vr (fc vr (fc vr (fc vr (fc vr (fn)))))) (sn)) h0 (fun y h => ?_)
  obtain ⟨⟨first1, x, x1, x2, x3⟩, g6⟩ := y
  replace h := hI (first1, x, x1, x2, x3) h
  show Vc _ _ _ _ (envOf [(1, .int .i64 first1), (2, .fn (.func 122) [.ptr q0 k0 g0 0 0] []), (9, eL (AV.int .i64) refs), (10, .int .i64 (refs.length : Int)), (11, .int .i64 x)]) (stL (stX S [(q0, k0, .arr 5 [.agg [.sl 1 q1 k1 g1 0 order.length, .sl 1 q2 k2 g2 0 place.length, .sl 3 q3 k3 g6 0 x1.length, .map q4 k4 g4, .map q5 k5 g5]], g0), (q3, k3, .arr 3 (List.map eDNode x1), g6), (q4, k4, mapE (AV.int .i64) (.many [.i64, .i64, .i64]) x2, g4), (q5, k5, mapE (AV.int .i64) (.many [.i64, .i64, .i64]) x3, g5), (q1, k1, .arr 1 (List.map (AV.int .i64) order), g1), (q2, k2, .arr 1 (List.map (AV.int .i64) place), g2)]) rg [])
  refine qZ (rZ (wZ rg (o_lss rfl rfl (nZ (qZ ?_)))))
  refine Vc.cond' rfl (fun hb => ?_) (fun hb => ?_)
  · replace h := h.1 hb
    refine Vc.skip' ?_
    refine qZ ?_
    refine Vc.blk ?_
    refine qZ (rZ (wZ rg (o_idxL td25 sz3 (by decide) (fun _ => rfl) rfl rfl h.1 ?_)))
    replace h := h.2
    refine wZ rg (o_loadI1 sz3 ag3 rfl rfl (v := .int .i64 (at' refs x)) rfl (asZ (.int .i64 (at' refs x)) rfl (nZ (rZ (mvZ (.fn (.func 122) [.ptr q0 k0 g0 0 0] []) rfl (mvZ (.int .i64 first1) rfl (mvZ (.int .i64 (at' refs x)) rfl ?_)))))))
    refine wZ rg (o_call (us := [.ptr q0 k0 g0 0 0, AV.int .i64 first1, AV.int .i64 (at' refs x)]) rfl (vl' vr (vl' vr (vl' vr (vn)))) (ctrX (sx_c (atX hne0 hdx 0 rfl) (sx_c (atX hne3 hdx 1 rfl) (sx_c (atX hne4 hdx 2 rfl) (sx_c (atX hne5 hdx 3 rfl) (sx_c (atX hne1 hdx 4 rfl) (sx_c (atX hne2 hdx 5 rfl) (sx_n))))))) (decision_Table__Xor__e_ctr (dk_c (ni_c (dk_at 0 1 hdk rfl rfl rfl) (ni_c (dk_at 0 2 hdk rfl rfl rfl) (ni_c (dk_at 0 3 hdk rfl rfl rfl) (ni_c (dk_at 0 4 hdk rfl rfl rfl) (ni_c (dk_at 0 5 hdk rfl rfl rfl) (ni_n)))))) (dk_c (ni_c (dk_at 1 2 hdk rfl rfl rfl) (ni_c (dk_at 1 3 hdk rfl rfl rfl) (ni_c (dk_at 1 4 hdk rfl rfl rfl) (ni_c (dk_at 1 5 hdk rfl rfl rfl) (ni_n))))) (dk_c (ni_c (dk_at 2 3 hdk rfl rfl rfl) (ni_c (dk_at 2 4 hdk rfl rfl rfl) (ni_c (dk_at 2 5 hdk rfl rfl rfl) (ni_n)))) (dk_c (ni_c (dk_at 3 4 hdk rfl rfl rfl) (ni_c (dk_at 3 5 hdk rfl rfl rfl) (ni_n))) (dk_c (ni_c (dk_at 4 5 hdk rfl rfl rfl) (ni_n)) (dk_c (ni_n) (dk_n))))))) h fun u u1 u2 first2 g7 h => ?_)))
    refine Wl.eqS (sy_c (sy_c (sy_c (sy_c (sx_c (atX hne1 hdx 4 rfl) (sx_c (atX hne2 hdx 5 rfl) (sx_n))) (setX hne5 hdx 3 rfl rfl)) (setX hne4 hdx 2 rfl rfl)) (setX hne3 hdx 1 rfl rfl)) (setX hne0 hdx 0 rfl rfl)) ?_
    refine asZ (.int .i64 first2) rfl (nZ (rZ (wZ rg (o_addG rfl rfl h.1 ?_))))
    replace h := h.2
    refine mvZ (.int .i64 (x + 1)) rfl (nZ ?_)
    exact ⟨((first2, (x + 1), u, u1, u2), g7), (canon (fc vr (fc vr (fc vr (fc vr (fc vr (fn)))))) (sn)), h⟩
  replace h := h.2 hb
  refine Vc.exit' (exB_self ?_)
  refine qZ (rZ (mvZ (.int .i64 first1) rfl (asZ (.int .i64 first1) rfl (nZ ?_))))
  refine Vc.ret' ?_
  refine res_tmp (v := .int .i64 first1) rfl (res_nil ?_)
  show Gives _ (.int .i64 first1) _
  exact gives_out (hfr _ rfl) (VW.refl _) (hQ _ _ _ _ _ h)
theorem diagram_node__e_ctr {x : GNode} {refs : List Int} {order : List Int} {place : List Int} {nodes : List GDNode} {unique : GMap Int} {memo : GMap Int} {q0 k0 g0 q1 k1 g1 q2 k2 g2 q3 k3 g3 q4 k4 g4 q5 k5 g5 : Nat} (hdk : DK [(q0, k0), (q3, k3), (q4, k4), (q5, k5), (q1, k1), (q2, k2)]) {Q : List GDNode → GMap Int → GMap Int → Int → Prop} {S : St} {R : AV → St → Prop} (h : diagram_node__e_W x refs order place nodes unique memo Q) (hQ : ∀ r1 r2 r3 r4, ∀ h3, Q r1 r2 r3 r4 → R (AV.int .i64 r4) (stX S [(q0, k0, .arr 5 [.agg [.sl 1 q1 k1 g1 0 order.length, .sl 1 q2 k2 g2 0 place.length, .sl 3 q3 k3 h3 0 r1.length, .map q4 k4 g4, .map q5 k5 g5]], g0), (q3, k3, .arr 3 (List.map eDNode r1), h3), (q4, k4, mapE (AV.int .i64) (.many [.i64, .i64, .i64]) r2, g4), (q5, k5, mapE (AV.int .i64) (.many [.i64, .i64, .i64]) r3, g5), (q1, k1, .arr 1 (List.map (AV.int .i64) order), g1), (q2, k2, .arr 1 (List.map (AV.int .i64) place), g2)])) :
    Ctr Try.prog 75 [.ptr q0 k0 g0 0 0, eNode x, eL (AV.int .i64) refs] (stX S [(q0, k0, .arr 5 [.agg [.sl 1 q1 k1 g1 0 order.length, .sl 1 q2 k2 g2 0 place.length, .sl 3 q3 k3 g3 0 nodes.length, .map q4 k4 g4, .map q5 k5 g5]], g0), (q3, k3, .arr 3 (List.map eDNode nodes), g3), (q4, k4, mapE (AV.int .i64) (.many [.i64, .i64, .i64]) unique, g4), (q5, k5, mapE (AV.int .i64) (.many [.i64, .i64, .i64]) memo, g5), (q1, k1, .arr 1 (List.map (AV.int .i64) order), g1), (q2, k2, .arr 1 (List.map (AV.int .i64) place), g2)]) R := by
  unfold diagram_node__e_W at h
  refine enterT Try.func75 rfl Try.ntmps75 Try.results75 (by kernel_rfl) (fun rg hrg => ?_)
  have hdx : DX [(q0, k0, .arr 5 [.agg [.sl 1 q1 k1 g1 0 order.length, .sl 1 q2 k2 g2 0 place.length, .sl 3 q3 k3 g3 0 nodes.length, .map q4 k4 g4, .map q5 k5 g5]], g0), (q3, k3, .arr 3 (List.map eDNode nodes), g3), (q4, k4, mapE (AV.int .i64) (.many [.i64, .i64, .i64]) unique, g4), (q5, k5, mapE (AV.int .i64) (.many [.i64, .i64, .i64]) memo, g5), (q1, k1, .arr 1 (List.map (AV.int .i64) order), g1), (q2, k2, .arr 1 (List.map (AV.int .i64) place), g2)] := hdk
  have hfr := fun X' e => fresh_set (S := S) (rg := rg) (X := [(q0, k0, .arr 5 [.agg [.sl 1 q1 k1 g1 0 order.length, .sl 1 q2 k2 g2 0 place.length, .sl 3 q3 k3 g3 0 nodes.length, .map q4 k4 g4, .map q5 k5 g5]], g0), (q3, k3, .arr 3 (List.map eDNode nodes), g3), (q4, k4, mapE (AV.int .i64) (.many [.i64, .i64, .i64]) unique, g4), (q5, k5, mapE (AV.int .i64) (.many [.i64, .i64, .i64]) memo, g5), (q1, k1, .arr 1 (List.map (AV.int .i64) order), g1), (q2, k2, .arr 1 (List.map (AV.int .i64) place), g2)]) (X' := X') e hrg
  have hne0 := fresh_ne hdx hrg 0 rfl
  have hne3 := fresh_ne hdx hrg 1 rfl
  have hne4 := fresh_ne hdx hrg 2 rfl
  have hne5 := fresh_ne hdx hrg 3 rfl
  have hne1 := fresh_ne hdx hrg 4 rfl
  have hne2 := fresh_ne hdx hrg 5 rfl
  refine qZ (rZ (wZ rg (o_box (v := eNode x) rfl rfl (kk := 3) rfl (by decide) (fun g6 => (asZ (.int .i64 0) rfl (nZ (qZ (qZ (rZ (wZ rg (o_faP td105 rfl rfl (by rw [sz3]; decide) rfl (wZ rg (o_loadB1 (atL (k := 4) rfl) sz3 ag3 rfl rfl (v := .int .i64 x.Kind) rfl (nZ ?_))))))))))))))
  refine Vc.blk ?_
  refine qZ (rZ (wZ rg (o_eql rfl rfl (asZ (.bool (x.Kind == 0)) rfl (nZ ?_)))))
  refine Vc.cond' rfl (fun hb => ?_) (fun hb => ?_)
  · replace h := h.1 hb
    refine qZ (rZ (wZ rg (o_faP td105 rfl rfl (by rw [sz3]; decide) rfl (wZ rg (o_loadB1 (atL (k := 4) rfl) sz3 ag3 rfl rfl (v := .int .i64 x.K) rfl (asZ (.int .i64 x.K) rfl (nZ ?_)))))))
    refine Vc.ret' ?_
    refine res_tmp (v := .int .i64 x.K) rfl (res_nil ?_)
    show Gives _ (.int .i64 x.K) _
    exact gives_out (hfr _ rfl) (VW.refl _) (hQ _ _ _ _ _ h)
  replace h := h.2 hb
  refine qZ (rZ (wZ rg (o_eql rfl rfl (asZ (.bool (x.Kind == 1)) rfl (nZ ?_)))))
  refine Vc.cond' rfl (fun hb1 => ?_) (fun hb1 => ?_)
  · replace h := h.1 hb1
    refine qZ (rZ (mvZ (.ptr q0 k0 g0 0 0) rfl (mvZ (eL (AV.int .i64) refs) rfl (wZ rg (o_idxL td25 sz3 (by decide) (fun _ => rfl) rfl rfl h.1 ?_)))))
    replace h := h.2
    refine wZ rg (o_loadI1 sz3 ag3 rfl rfl (v := .int .i64 (at' refs 0)) rfl ?_)
    refine wZ rg (o_call (us := [.ptr q0 k0 g0 0 0, AV.int .i64 (at' refs 0)]) rfl (vl' vr (vl' vr (vn))) (ctrX (sx_c (atX hne0 hdx 0 rfl) (sx_c (atX hne3 hdx 1 rfl) (sx_c (atX hne4 hdx 2 rfl) (sx_c (atX hne5 hdx 3 rfl) (sx_c (atX hne1 hdx 4 rfl) (sx_c (atX hne2 hdx 5 rfl) (sx_n))))))) (decision_Table__Not__e_ctr (dk_c (ni_c (dk_at 0 1 hdk rfl rfl rfl) (ni_c (dk_at 0 2 hdk rfl rfl rfl) (ni_c (dk_at 0 3 hdk rfl rfl rfl) (ni_c (dk_at 0 4 hdk rfl rfl rfl) (ni_c (dk_at 0 5 hdk rfl rfl rfl) (ni_n)))))) (dk_c (ni_c (dk_at 1 2 hdk rfl rfl rfl) (ni_c (dk_at 1 3 hdk rfl rfl rfl) (ni_c (dk_at 1 4 hdk rfl rfl rfl) (ni_c (dk_at 1 5 hdk rfl rfl rfl) (ni_n))))) (dk_c (ni_c (dk_at 2 3 hdk rfl rfl rfl) (ni_c (dk_at 2 4 hdk rfl rfl rfl) (ni_c (dk_at 2 5 hdk rfl rfl rfl) (ni_n)))) (dk_c (ni_c (dk_at 3 4 hdk rfl rfl rfl) (ni_c (dk_at 3 5 hdk rfl rfl rfl) (ni_n))) (dk_c (ni_c (dk_at 4 5 hdk rfl rfl rfl) (ni_n)) (dk_c (ni_n) (dk_n))))))) h fun u u1 u2 r g7 h => ?_)))
    refine Wl.eqS (sy_c (sy_c (sy_c (sy_c (sx_c (atX hne1 hdx 4 rfl) (sx_c (atX hne2 hdx 5 rfl) (sx_n))) (setX hne5 hdx 3 rfl rfl)) (setX hne4 hdx 2 rfl rfl)) (setX hne3 hdx 1 rfl rfl)) (setX hne0 hdx 0 rfl rfl)) ?_
    refine asZ (.int .i64 r) rfl (nZ ?_)
    refine Vc.ret' ?_
    refine res_tmp (v := .int .i64 r) rfl (res_nil ?_)
    show Gives _ (.int .i64 r) _
    exact gives_out (hfr _ rfl) (VW.refl _) (hQ _ _ _ _ _ h)
  replace h := h.2 hb1
  refine qZ (rZ (wZ rg (o_eql rfl rfl (asZ (.bool (x.Kind == 2)) rfl (nZ ?_)))))
  refine Vc.cond' rfl (fun hb2 => ?_) (fun hb2 => ?_)
  · replace h := h.1 hb2
    refine qZ (rZ (mvZ (eL (AV.int .i64) refs) rfl (mvZ (.ptr q0 k0 g0 0 0) rfl (wZ rg (o_func (vs := [.ptr q0 k0 g0 0 0]) (us := []) rfl rfl ?_)))))
    refine wZ rg (o_call (us := [eL (AV.int .i64) refs, AV.int .i64 1, .fn (.func 120) [.ptr q0 k0 g0 0 0] []]) rfl (vl' vr (vl' vr (vl' vr (vn)))) (ctrX (sx_c (atX hne0 hdx 0 rfl) (sx_c (atX hne3 hdx 1 rfl) (sx_c (atX hne4 hdx 2 rfl) (sx_c (atX hne5 hdx 3 rfl) (sx_c (atX hne1 hdx 4 rfl) (sx_c (atX hne2 hdx 5 rfl) (sx_n))))))) (diagram_join__e_ctr (dk_c (ni_c (dk_at 0 1 hdk rfl rfl rfl) (ni_c (dk_at 0 2 hdk rfl rfl rfl) (ni_c (dk_at 0 3 hdk rfl rfl rfl) (ni_c (dk_at 0 4 hdk rfl rfl rfl) (ni_c (dk_at 0 5 hdk rfl rfl rfl) (ni_n)))))) (dk_c (ni_c (dk_at 1 2 hdk rfl rfl rfl) (ni_c (dk_at 1 3 hdk rfl rfl rfl) (ni_c (dk_at 1 4 hdk rfl rfl rfl) (ni_c (dk_at 1 5 hdk rfl rfl rfl) (ni_n))))) (dk_c (ni_c (dk_at 2 3 hdk rfl rfl rfl) (ni_c (dk_at 2 4 hdk rfl rfl rfl) (ni_c (dk_at 2 5 hdk rfl rfl rfl) (ni_n)))) (dk_c (ni_c (dk_at 3 4 hdk rfl rfl rfl) (ni_c (dk_at 3 5 hdk rfl rfl rfl) (ni_n))) (dk_c (ni_c (dk_at 4 5 hdk rfl rfl rfl) (ni_n)) (dk_c (ni_n) (dk_n))))))) h fun u3 u4 u5 r1 g8 h => ?_)))
    refine Wl.eqS (sy_c (sy_c (sy_c (sy_c (sx_c (atX hne1 hdx 4 rfl) (sx_c (atX hne2 hdx 5 rfl) (sx_n))) (setX hne5 hdx 3 rfl rfl)) (setX hne4 hdx 2 rfl rfl)) (setX hne3 hdx 1 rfl rfl)) (setX hne0 hdx 0 rfl rfl)) ?_
    refine asZ (.int .i64 r1) rfl (nZ ?_)
    refine Vc.ret' ?_
    refine res_tmp (v := .int .i64 r1) rfl (res_nil ?_)
    show Gives _ (.int .i64 r1) _
    exact gives_out (hfr _ rfl) (VW.refl _) (hQ _ _ _ _ _ h)
  replace h := h.2 hb2
  refine qZ (rZ (wZ rg (o_eql rfl rfl (asZ (.bool (x.Kind == 3)) rfl (nZ ?_)))))
  refine Vc.cond' rfl (fun hb3 => ?_) (fun hb3 => ?_)
  · replace h := h.1 hb3
    refine qZ (rZ (mvZ (eL (AV.int .i64) refs) rfl (mvZ (.ptr q0 k0 g0 0 0) rfl (wZ rg (o_func (vs := [.ptr q0 k0 g0 0 0]) (us := []) rfl rfl ?_)))))
    refine wZ rg (o_call (us := [eL (AV.int .i64) refs, AV.int .i64 0, .fn (.func 121) [.ptr q0 k0 g0 0 0] []]) rfl (vl' vr (vl' vr (vl' vr (vn)))) (ctrX (sx_c (atX hne0 hdx 0 rfl) (sx_c (atX hne3 hdx 1 rfl) (sx_c (atX hne4 hdx 2 rfl) (sx_c (atX hne5 hdx 3 rfl) (sx_c (atX hne1 hdx 4 rfl) (sx_c (atX hne2 hdx 5 rfl) (sx_n))))))) (diagram_join__e2_ctr (dk_c (ni_c (dk_at 0 1 hdk rfl rfl rfl) (ni_c (dk_at 0 2 hdk rfl rfl rfl) (ni_c (dk_at 0 3 hdk rfl rfl rfl) (ni_c (dk_at 0 4 hdk rfl rfl rfl) (ni_c (dk_at 0 5 hdk rfl rfl rfl) (ni_n)))))) (dk_c (ni_c (dk_at 1 2 hdk rfl rfl rfl) (ni_c (dk_at 1 3 hdk rfl rfl rfl) (ni_c (dk_at 1 4 hdk rfl rfl rfl) (ni_c (dk_at 1 5 hdk rfl rfl rfl) (ni_n))))) (dk_c (ni_c (dk_at 2 3 hdk rfl rfl rfl) (ni_c (dk_at 2 4 hdk rfl rfl rfl) (ni_c (dk_at 2 5 hdk rfl rfl rfl) (ni_n)))) (dk_c (ni_c (dk_at 3 4 hdk rfl rfl rfl) (ni_c (dk_at 3 5 hdk rfl rfl rfl) (ni_n))) (dk_c (ni_c (dk_at 4 5 hdk rfl rfl rfl) (ni_n)) (dk_c (ni_n) (dk_n))))))) h fun u6 u7 u8 r2 g9 h => ?_)))
    refine Wl.eqS (sy_c (sy_c (sy_c (sy_c (sx_c (atX hne1 hdx 4 rfl) (sx_c (atX hne2 hdx 5 rfl) (sx_n))) (setX hne5 hdx 3 rfl rfl)) (setX hne4 hdx 2 rfl rfl)) (setX hne3 hdx 1 rfl rfl)) (setX hne0 hdx 0 rfl rfl)) ?_
    refine asZ (.int .i64 r2) rfl (nZ ?_)
    refine Vc.ret' ?_
    refine res_tmp (v := .int .i64 r2) rfl (res_nil ?_)
    show Gives _ (.int .i64 r2) _
    exact gives_out (hfr _ rfl) (VW.refl _) (hQ _ _ _ _ _ h)
  replace h := h.2 hb3
  refine qZ (rZ (wZ rg (o_eql rfl rfl (asZ (.bool (x.Kind == 5)) rfl (nZ ?_)))))
  refine Vc.cond' rfl (fun hb4 => ?_) (fun hb4 => ?_)
  · replace h := h.1 hb4
    refine qZ (rZ (mvZ (eL (AV.int .i64) refs) rfl (mvZ (.ptr q0 k0 g0 0 0) rfl (wZ rg (o_func (vs := [.ptr q0 k0 g0 0 0]) (us := []) rfl rfl ?_)))))
    refine wZ rg (o_call (us := [eL (AV.int .i64) refs, AV.int .i64 0, .fn (.func 122) [.ptr q0 k0 g0 0 0] []]) rfl (vl' vr (vl' vr (vl' vr (vn)))) (ctrX (sx_c (atX hne0 hdx 0 rfl) (sx_c (atX hne3 hdx 1 rfl) (sx_c (atX hne4 hdx 2 rfl) (sx_c (atX hne5 hdx 3 rfl) (sx_c (atX hne1 hdx 4 rfl) (sx_c (atX hne2 hdx 5 rfl) (sx_n))))))) (diagram_join__e3_ctr (dk_c (ni_c (dk_at 0 1 hdk rfl rfl rfl) (ni_c (dk_at 0 2 hdk rfl rfl rfl) (ni_c (dk_at 0 3 hdk rfl rfl rfl) (ni_c (dk_at 0 4 hdk rfl rfl rfl) (ni_c (dk_at 0 5 hdk rfl rfl rfl) (ni_n)))))) (dk_c (ni_c (dk_at 1 2 hdk rfl rfl rfl) (ni_c (dk_at 1 3 hdk rfl rfl rfl) (ni_c (dk_at 1 4 hdk rfl rfl rfl) (ni_c (dk_at 1 5 hdk rfl rfl rfl) (ni_n))))) (dk_c (ni_c (dk_at 2 3 hdk rfl rfl rfl) (ni_c (dk_at 2 4 hdk rfl rfl rfl) (ni_c (dk_at 2 5 hdk rfl rfl rfl) (ni_n)))) (dk_c (ni_c (dk_at 3 4 hdk rfl rfl rfl) (ni_c (dk_at 3 5 hdk rfl rfl rfl) (ni_n))) (dk_c (ni_c (dk_at 4 5 hdk rfl rfl rfl) (ni_n)) (dk_c (ni_n) (dk_n))))))) h fun u9 u10 u11 r3 g10 h => ?_)))
    refine Wl.eqS (sy_c (sy_c (sy_c (sy_c (sx_c (atX hne1 hdx 4 rfl) (sx_c (atX hne2 hdx 5 rfl) (sx_n))) (setX hne5 hdx 3 rfl rfl)) (setX hne4 hdx 2 rfl rfl)) (setX hne3 hdx 1 rfl rfl)) (setX hne0 hdx 0 rfl rfl)) ?_
    refine asZ (.int .i64 r3) rfl (nZ ?_)
    refine Vc.ret' ?_
    refine res_tmp (v := .int .i64 r3) rfl (res_nil ?_)
    show Gives _ (.int .i64 r3) _
    exact gives_out (hfr _ rfl) (VW.refl _) (hQ _ _ _ _ _ h)
  replace h := h.2 hb4
  refine Vc.skip' ?_
  refine qZ (rZ (mvZ (.ptr q0 k0 g0 0 0) rfl (mvZ (eL (AV.int .i64) refs) rfl (wZ rg (o_faP td105 rfl rfl (by rw [sz3]; decide) rfl (wZ rg (o_loadB1 (atL (k := 4) rfl) sz3 ag3 rfl rfl (v := .int .i64 x.K) rfl ?_)))))))
  refine wZ rg (o_call (us := [.ptr q0 k0 g0 0 0, eL (AV.int .i64) refs, AV.int .i64 x.K]) rfl (vl' vr (vl' vr (vl' vr (vn)))) (ctrX (sx_c (atX hne0 hdx 0 rfl) (sx_c (atX hne3 hdx 1 rfl) (sx_c (atX hne4 hdx 2 rfl) (sx_c (atX hne5 hdx 3 rfl) (sx_c (atX hne1 hdx 4 rfl) (sx_c (atX hne2 hdx 5 rfl) (sx_n))))))) (diagram_vote__e_ctr (dk_c (ni_c (dk_at 0 1 hdk rfl rfl rfl) (ni_c (dk_at 0 2 hdk rfl rfl rfl) (ni_c (dk_at 0 3 hdk rfl rfl rfl) (ni_c (dk_at 0 4 hdk rfl rfl rfl) (ni_c (dk_at 0 5 hdk rfl rfl rfl) (ni_n)))))) (dk_c (ni_c (dk_at 1 2 hdk rfl rfl rfl) (ni_c (dk_at 1 3 hdk rfl rfl rfl) (ni_c (dk_at 1 4 hdk rfl rfl rfl) (ni_c (dk_at 1 5 hdk rfl rfl rfl) (ni_n))))) (dk_c (ni_c (dk_at 2 3 hdk rfl rfl rfl) (ni_c (dk_at 2 4 hdk rfl rfl rfl) (ni_c (dk_at 2 5 hdk rfl rfl rfl) (ni_n)))) (dk_c (ni_c (dk_at 3 4 hdk rfl rfl rfl) (ni_c (dk_at 3 5 hdk rfl rfl rfl) (ni_n))) (dk_c (ni_c (dk_at 4 5 hdk rfl rfl rfl) (ni_n)) (dk_c (ni_n) (dk_n))))))) h fun u12 u13 u14 r4 g11 h => ?_)))
  refine Wl.eqS (sy_c (sy_c (sy_c (sy_c (sx_c (atX hne1 hdx 4 rfl) (sx_c (atX hne2 hdx 5 rfl) (sx_n))) (setX hne5 hdx 3 rfl rfl)) (setX hne4 hdx 2 rfl rfl)) (setX hne3 hdx 1 rfl rfl)) (setX hne0 hdx 0 rfl rfl)) ?_
  refine asZ (.int .i64 r4) rfl (nZ ?_)
  refine Vc.ret' ?_
  refine res_tmp (v := .int .i64 r4) rfl (res_nil ?_)
  show Gives _ (.int .i64 r4) _
  exact gives_out (hfr _ rfl) (VW.refl _) (hQ _ _ _ _ _ h)
set_option maxHeartbeats 4000000 in
theorem diagram_Build_ctr {f : GFormula} {o : List Int} {Q : GDiagram → Option Int → Prop} {S : St} {R : AV → St → Prop} (h : diagram_Build_W f o Q) (hQ : ∀ r1 r2, Q r1 r2 → R (.tuple [eDiagram r1, eErr 73 r2]) S) :
    Ctr Try.prog 22 [eFormula f, eL (AV.int .i64) o] S R := by
  unfold diagram_Build_W at h
  refine enterT Try.func22 rfl Try.ntmps22 Try.results22 (by kernel_rfl) (fun rg hrg => ?_)
  refine qZ (rZ (wZ rg (o_box (v := eFormula f) rfl rfl (kk := 3) rfl (by decide) (fun g1 => (wZ rg (o_alloc zav30 ok30 (kk := 3) rfl (fun g2 => (asZ .niface rfl (nZ (qZ (rZ (wZ rg (o_loadBA (atL (k := 2) rfl) sz24 (by decide) ag24 rfl rfl (v := eFormula f) rfl (wZ rg (o_call (us := [eFormula f]) rfl (vl' vr (vn)) (formula_Size_ctr h fun r r1 r2 h => ?_))))))))))))))))
  refine mvZ (.tuple [.int .i64 r, .int .i64 r1, eErr 73 r2]) rfl (wZ rg (o_extract (v := .int .i64 r) rfl rfl rfl (wZ rg (o_extract (v := .int .i64 r1) rfl rfl rfl (wZ rg (o_extract (v := eErr 73 r2) rfl rfl rfl (asZ (.int .i64 r) rfl (asZ (.int .i64 r1) rfl (asZ (eErr 73 r2) rfl (nZ (qZ (qZ (rZ (mvZ (eErr 73 r2) rfl (wZ rg (o_isnon td32 (E := 73) rfl rfl rfl (nZ ?_)))))))))))))))))
  refine Vc.cond' rfl (fun hb => ?_) (fun hb => ?_)
  · replace h := h.1 hb
    refine qZ (rZ (wZ rg (o_build td30 zav30 bok30 szs30 sz30 (ps := []) rfl rfl (v := .agg [.nil, .nil, .int .i64 0]) rfl (mvZ (eErr 73 r2) rfl (wZ rg (o_storeB (atL (k := 4) rfl) sz30 (by decide) rfl (w := .agg [.nil, .nil, .int .i64 0]) rfl rfl rfl (v := .agg [.nil, .nil, .int .i64 0]) rfl setL (asZ (eErr 73 r2) rfl (nZ ?_))))))))
    refine Vc.ret' ?_
    refine res_cellA (atL (k := 4) rfl) sz30 (by decide) ag30 rfl rfl (v := .agg [.nil, .nil, .int .i64 0]) rfl (res_tmp (v := eErr 73 r2) rfl (res_nil ?_))
    show Gives _ (.tuple [.agg [.nil, .nil, .int .i64 0], eErr 73 r2]) _
    exact gives_out hrg (VW.tupL (vl' (VW.aggL (vl' (VW.nilL) (vl' (VW.nilL) (vl' vr (vn))))) (vl' vr (vn)))) (hQ _ _ h)
  replace h := h.2 hb
  refine Vc.skip' ?_
  refine qZ (qZ (rZ (mvZ (eL (AV.int .i64) o) rfl (wZ rg (o_faP td24 rfl rfl (by rw [sz3]; decide) rfl (wZ rg (o_loadB1 (atL (k := 2) rfl) sz3 ag3 rfl rfl (v := .int .i64 f.Vars) rfl (wZ rg (o_call (us := [eL (AV.int .i64) o, AV.int .i64 f.Vars]) rfl (vl' vr (vl' vr (vn))) (order_Check_ctr h fun err h => (asZ (eErr 73 err) rfl (nZ (qZ (rZ (mvZ (eErr 73 err) rfl ?_)))))))))))))))
  refine wZ rg (o_isnon td32 (E := 73) rfl rfl rfl (nZ ?_))
  refine Vc.cond' rfl (fun hb1 => ?_) (fun hb1 => ?_)
  · replace h := h.1 hb1
    refine qZ (rZ (wZ rg (o_build td30 zav30 bok30 szs30 sz30 (ps := []) rfl rfl (v := .agg [.nil, .nil, .int .i64 0]) rfl (mvZ (eErr 73 err) rfl (wZ rg (o_storeB (atL (k := 4) rfl) sz30 (by decide) rfl (w := .agg [.nil, .nil, .int .i64 0]) rfl rfl rfl (v := .agg [.nil, .nil, .int .i64 0]) rfl setL (asZ (eErr 73 err) rfl (nZ ?_))))))))
    refine Vc.ret' ?_
    refine res_cellA (atL (k := 4) rfl) sz30 (by decide) ag30 rfl rfl (v := .agg [.nil, .nil, .int .i64 0]) rfl (res_tmp (v := eErr 73 err) rfl (res_nil ?_))
    show Gives _ (.tuple [.agg [.nil, .nil, .int .i64 0], eErr 73 err]) _
    exact gives_out hrg (VW.tupL (vl' (VW.aggL (vl' (VW.nilL) (vl' (VW.nilL) (vl' vr (vn))))) (vl' vr (vn)))) (hQ _ _ h)
  replace h := h.2 hb1
  refine Vc.skip' ?_
  obtain ⟨J, h, hJ⟩ := h
  refine Vc.join' (σ := ((GFormula) × (Nat × Nat))) (fun y => J y.1) (fun y => envOf [(1, eL (AV.int .i64) o), (2, .ptr rg 2 y.2.1 0 0), (4, .ptr rg 4 y.2.2 0 0)]) (fun y => stL S rg [(2, .arr 3 [eFormula y.1], y.2.1), (4, .arr 3 [.agg [.nil, .nil, .int .i64 0]], y.2.2)]) (fun y h => ?_) ?_
  · obtain ⟨x, ⟨g3, g4⟩⟩ := y
    replace h := hJ x h
    show Vc _ _ _ _ (envOf [(1, eL (AV.int .i64) o), (2, .ptr rg 2 g3 0 0), (4, .ptr rg 4 g4 0 0)]) (stL S rg [(2, .arr 3 [eFormula x], g3), (4, .arr 3 [.agg [.nil, .nil, .int .i64 0]], g4)])
    refine qZ (rZ (mvZ (eL (AV.int .i64) o) rfl (wZ rg (o_call (us := [eL (AV.int .i64) o]) rfl (vl' vr (vn)) (decision_New_ctr rg 5000000 5000001 5000002 5000003 5000004 h fun order place unique memo g5 g6 g7 g8 g9 h => ?_)))))
    refine Wl.eqS (sy_c (sy_c (sy_c (sy_c (sy_c (sx_n) setL) setL) setL) setL) setL) ?_
    refine asZ (.ptr rg 5000000 g5 0 0) rfl (nZ (qZ (rZ (wZ rg (o_faP td24 rfl rfl (by rw [sz3]; decide) rfl (wZ rg (o_loadB1 (atL (k := 2) rfl) sz3 ag3 rfl rfl (v := .int .i64 x.Vars) rfl (wZ rg (o_faP td24 rfl rfl (by rw [sz22]; decide) rfl (wZ rg (o_loadB1 (atL (k := 2) rfl) sz22 ag22 rfl rfl (v := eL eNode x.Nodes) rfl (wZ rg (o_len td22 rfl (wZ rg (o_addG rfl rfl h.1 ?_)))))))))))))))
    replace h := h.2
    refine wZ rg (o_make td25 bts3 ok3 (enc := AV.int .i64) (z' := 0) zav3 (kk := 1) rfl rfl rfl h.1 (fun g10 => ?_))
    replace h := h.2
    refine asZ (.sl 1 rg 56 g10 0 (Int.toNat (x.Vars + (x.Nodes.length : Int)))) rfl (nZ (qZ (qZ (rZ (wZ rg (o_faP td24 rfl rfl (by rw [sz3]; decide) rfl (wZ rg (o_loadB1 (atL (k := 2) rfl) sz3 ag3 rfl rfl (v := .int .i64 x.Vars) rfl (mvZ (.int .i64 0) rfl (nZ ?_))))))))))
    refine Vc.blk ?_
    refine Vc.matB 5000000 2 5000001002 3 (b := fun g11 => .agg [.sl 1 rg 5000001 g6 0 order.length, .sl 1 rg 5000002 g7 0 place.length, .sl 3 rg 5000001002 g11 0 0, .map rg 5000003 g8, .map rg 5000004 g9]) rfl rfl (by decide) (by decide) rfl (fun g11 => ?_)
    obtain ⟨I, μ, h0, hI⟩ := h
    refine Vc.loop' (σ := ((Int × (List Int) × (GMap Int) × (List GDNode)) × (Nat))) (fun y => I y.1) (fun y => μ y.1) (fun y => envOf [(2, .ptr rg 2 g3 0 0), (4, .ptr rg 4 g4 0 0), (10, .ptr rg 5000000 g5 0 0), (11, .sl 1 rg 56 g10 0 y.1.2.1.length), (58, .int .i64 x.Vars), (59, .int .i64 y.1.1)]) (fun y => stL S rg [(2, .arr 3 [eFormula x], g3), (4, .arr 3 [.agg [.nil, .nil, .int .i64 0]], g4), (56, .arr 1 (List.map (AV.int .i64) y.1.2.1), g10), (5000000, .arr 5 [.agg [.sl 1 rg 5000001 g6 0 order.length, .sl 1 rg 5000002 g7 0 place.length, .sl 3 rg 5000001002 y.2 0 y.1.2.2.2.length, .map rg 5000003 g8, .map rg 5000004 g9]], g5), (5000001, .arr 1 (List.map (AV.int .i64) order), g6), (5000002, .arr 1 (List.map (AV.int .i64) place), g7), (5000003, mapE (AV.int .i64) (.many [.i64, .i64, .i64]) y.1.2.2.1, g8), (5000004, mapE (AV.int .i64) (.many [.i64, .i64, .i64]) memo, g9), (5000001002, .arr 3 (List.map eDNode y.1.2.2.2), y.2)]) ((0, (rep' (x.Vars + (x.Nodes.length : Int)) 0), unique, []), g11) (EWk.trans (EWk.ow (k := 5000000) (o' := .arr 5 [.agg [.sl 1 rg 5000001 g6 0 order.length, .sl 1 rg 5000002 g7 0 place.length, .sl 3 rg 5000001002 g11 0 ([].length), .map rg 5000003 g8, .map rg 5000004 g9]]) rfl (OW.one (VWL.vwc (vl' vr (vl' vr (vl' (VW.slen (by first | rfl | omega | (simp only [go_sem] <;> omega))) (vl' vr (vl' vr (vn))))))))) (canon (fc vr (fc vr (fc vr (fc (VW.slen (by first | rfl | omega | (simp only [go_sem] <;> omega))) (fc vr (fc vr (fn))))))) (sc rfl (sc rfl (sc rfl (sc rfl (sc rfl (sc rfl (sc rfl (sc rfl (sc rfl (sn)))))))))))) h0 (fun y h => ?_)
    obtain ⟨⟨x1, refs, x2, x3⟩, g12⟩ := y
    replace h := hI (x1, refs, x2, x3) h
    show Vc _ _ _ _ (envOf [(2, .ptr rg 2 g3 0 0), (4, .ptr rg 4 g4 0 0), (10, .ptr rg 5000000 g5 0 0), (11, .sl 1 rg 56 g10 0 refs.length), (58, .int .i64 x.Vars), (59, .int .i64 x1)]) (stL S rg [(2, .arr 3 [eFormula x], g3), (4, .arr 3 [.agg [.nil, .nil, .int .i64 0]], g4), (56, .arr 1 (List.map (AV.int .i64) refs), g10), (5000000, .arr 5 [.agg [.sl 1 rg 5000001 g6 0 order.length, .sl 1 rg 5000002 g7 0 place.length, .sl 3 rg 5000001002 g12 0 x3.length, .map rg 5000003 g8, .map rg 5000004 g9]], g5), (5000001, .arr 1 (List.map (AV.int .i64) order), g6), (5000002, .arr 1 (List.map (AV.int .i64) place), g7), (5000003, mapE (AV.int .i64) (.many [.i64, .i64, .i64]) x2, g8), (5000004, mapE (AV.int .i64) (.many [.i64, .i64, .i64]) memo, g9), (5000001002, .arr 3 (List.map eDNode x3), g12)])
    refine qZ (rZ (wZ rg (o_lss rfl rfl (nZ (qZ ?_)))))
    refine Vc.cond' rfl (fun hb2 => ?_) (fun hb2 => ?_)
    · replace h := h.1 hb2
      refine Vc.skip' ?_
      refine qZ ?_
      refine Vc.blk ?_
      refine qZ (rZ (mvZ (.int .i64 x1) rfl (asZ (.int .i64 x1) rfl (nZ (rZ (mvZ (.sl 1 rg 56 g10 0 refs.length) rfl (mvZ (.int .i64 x1) rfl (mvZ (.ptr rg 5000000 g5 0 0) rfl (mvZ (.int .i64 x1) rfl ?_)))))))))
      refine wZ rg (o_call (us := [.ptr rg 5000000 g5 0 0, AV.int .i64 x1]) rfl (vl' vr (vl' vr (vn))) (ctrX (sx_c (atL (k := 5000000) rfl) (sx_c (atL (k := 5000001002) rfl) (sx_c (atL (k := 5000003) rfl) (sx_c (atL (k := 5000001) rfl) (sx_c (atL (k := 5000002) rfl) (sx_c (atL (k := 5000004) rfl) (sx_n))))))) (decision_Table__Event__e2_ctr (dk_c (ni_c (ni_o rfl) (ni_c (ni_o rfl) (ni_c (ni_o rfl) (ni_c (ni_o rfl) (ni_c (ni_o rfl) (ni_n)))))) (dk_c (ni_c (ni_o rfl) (ni_c (ni_o rfl) (ni_c (ni_o rfl) (ni_c (ni_o rfl) (ni_n))))) (dk_c (ni_c (ni_o rfl) (ni_c (ni_o rfl) (ni_c (ni_o rfl) (ni_n)))) (dk_c (ni_c (ni_o rfl) (ni_c (ni_o rfl) (ni_n))) (dk_c (ni_c (ni_o rfl) (ni_n)) (dk_c (ni_n) (dk_n))))))) h fun u u1 r3 g13 h => ?_)))
      refine Wl.eqS (sy_c (sy_c (sy_c (sx_c (atL (k := 5000001) rfl) (sx_c (atL (k := 5000002) rfl) (sx_c (atL (k := 5000004) rfl) (sx_n)))) setL) setL) setL) ?_
      refine wZ rg (o_idxR0 td25 sz3 (by decide) rfl rfl h.1 ?_)
      have hi := h.1
      replace h := h.2
      refine wZ rg (o_storeR1 (atL (k := 56) rfl) sz3 (by decide) (x' := r3) (fun _ => rfl) rfl rfl (lt_of hi (by first | rfl | omega | (simp only [go_sem] <;> omega))) rfl rfl setL (nZ (rZ (wZ rg (o_addG rfl rfl h.1 ?_)))))
      replace h := h.2
      refine mvZ (.int .i64 (x1 + 1)) rfl (nZ ?_)
      exact ⟨(((x1 + 1), (set' refs x1 r3), u1, u), g13), (canon (fc vr (fc vr (fc vr (fc (VW.slen (by first | rfl | omega | (simp only [go_sem] <;> omega))) (fc vr (fc vr (fn))))))) (sc rfl (sc rfl (sc rfl (sc rfl (sc rfl (sc rfl (sc rfl (sc rfl (sc rfl (sn))))))))))), h⟩
    replace h := h.2 hb2
    refine Vc.exit' (exB_self ?_)
    refine qZ (qZ (rZ (wZ rg (o_faP td24 rfl rfl (by rw [sz22]; decide) rfl (wZ rg (o_loadB1 (atL (k := 2) rfl) sz22 ag22 rfl rfl (v := eL eNode x.Nodes) rfl (wZ rg (o_len td22 rfl (mvZ (.int .i64 0) rfl (nZ ?_))))))))))
    refine Vc.blk ?_
    obtain ⟨I, μ, h0, hI⟩ := h
    refine Vc.loop' (σ := ((Int × (List Int) × (GMap Int) × (GMap Int) × (List GDNode)) × (Nat))) (fun y => I y.1) (fun y => μ y.1) (fun y => envOf [(2, .ptr rg 2 g3 0 0), (4, .ptr rg 4 g4 0 0), (10, .ptr rg 5000000 g5 0 0), (11, .sl 1 rg 56 g10 0 y.1.2.1.length), (70, eL eNode x.Nodes), (71, .int .i64 (x.Nodes.length : Int)), (72, .int .i64 y.1.1)]) (fun y => stL S rg [(2, .arr 3 [eFormula x], g3), (4, .arr 3 [.agg [.nil, .nil, .int .i64 0]], g4), (56, .arr 1 (List.map (AV.int .i64) y.1.2.1), g10), (5000000, .arr 5 [.agg [.sl 1 rg 5000001 g6 0 order.length, .sl 1 rg 5000002 g7 0 place.length, .sl 3 rg 5000001002 y.2 0 y.1.2.2.2.2.length, .map rg 5000003 g8, .map rg 5000004 g9]], g5), (5000001, .arr 1 (List.map (AV.int .i64) order), g6), (5000002, .arr 1 (List.map (AV.int .i64) place), g7), (5000003, mapE (AV.int .i64) (.many [.i64, .i64, .i64]) y.1.2.2.1, g8), (5000004, mapE (AV.int .i64) (.many [.i64, .i64, .i64]) y.1.2.2.2.1, g9), (5000001002, .arr 3 (List.map eDNode y.1.2.2.2.2), y.2)]) ((0, refs, x2, memo, x3), g12) (canon (fc vr (fc vr (fc vr (fc vr (fc vr (fc vr (fc vr (fn)))))))) (sc rfl (sc rfl (sc rfl (sc rfl (sc rfl (sc rfl (sc rfl (sc rfl (sc rfl (sn))))))))))) h0 (fun y h => ?_)
    obtain ⟨⟨x4, refs1, x5, x6, x7⟩, g14⟩ := y
    replace h := hI (x4, refs1, x5, x6, x7) h
    show Vc _ _ _ _ (envOf [(2, .ptr rg 2 g3 0 0), (4, .ptr rg 4 g4 0 0), (10, .ptr rg 5000000 g5 0 0), (11, .sl 1 rg 56 g10 0 refs1.length), (70, eL eNode x.Nodes), (71, .int .i64 (x.Nodes.length : Int)), (72, .int .i64 x4)]) (stL S rg [(2, .arr 3 [eFormula x], g3), (4, .arr 3 [.agg [.nil, .nil, .int .i64 0]], g4), (56, .arr 1 (List.map (AV.int .i64) refs1), g10), (5000000, .arr 5 [.agg [.sl 1 rg 5000001 g6 0 order.length, .sl 1 rg 5000002 g7 0 place.length, .sl 3 rg 5000001002 g14 0 x7.length, .map rg 5000003 g8, .map rg 5000004 g9]], g5), (5000001, .arr 1 (List.map (AV.int .i64) order), g6), (5000002, .arr 1 (List.map (AV.int .i64) place), g7), (5000003, mapE (AV.int .i64) (.many [.i64, .i64, .i64]) x5, g8), (5000004, mapE (AV.int .i64) (.many [.i64, .i64, .i64]) x6, g9), (5000001002, .arr 3 (List.map eDNode x7), g14)])
    refine qZ (rZ (wZ rg (o_lss rfl rfl (nZ (qZ ?_)))))
    refine Vc.cond' rfl (fun hb3 => ?_) (fun hb3 => ?_)
    · replace h := h.1 hb3
      refine Vc.skip' ?_
      refine qZ ?_
      refine Vc.blk ?_
      refine qZ (rZ (mvZ (.int .i64 x4) rfl (wZ rg (o_idxL td22 sz105 (by decide) (fun _ => rfl) rfl rfl h.1 ?_))))
      replace h := h.2
      refine wZ rg (o_loadIA sz105 (by decide) ag105 rfl rfl (v := eNode (at' x.Nodes x4)) rfl (wZ rg (o_alloc zav105 ok105 (kk := 3) rfl (fun g15 => (asZ (.int .i64 x4) rfl (wZ rg (o_storeB (atL (k := 14) rfl) sz105 (by decide) rfl (w := eNode (at' x.Nodes x4)) rfl rfl rfl (v := eNode (at' x.Nodes x4)) rfl setL (nZ (qZ (rZ (asZ .nil rfl (nZ (qZ (qZ (rZ ?_)))))))))))))))
      refine wZ rg (o_faP td105 rfl rfl (by rw [sz25]; decide) rfl (wZ rg (o_loadB1 (atL (k := 14) rfl) sz25 ag25 rfl rfl (v := eL (AV.int .i64) ((at' x.Nodes x4).Args)) rfl (wZ rg (o_len td25 rfl (mvZ (.int .i64 0) rfl (nZ ?_)))))))
      refine Vc.blk ?_
      refine Vc.mat 15 90 1 rfl (by decide) (fun g16 => ?_)
      obtain ⟨I, μ, h0, hI⟩ := h
      refine Vc.loop' (σ := ((Int × (List Int)) × (Nat))) (fun y => I y.1) (fun y => μ y.1) (fun y => envOf [(2, .ptr rg 2 g3 0 0), (4, .ptr rg 4 g4 0 0), (10, .ptr rg 5000000 g5 0 0), (11, .sl 1 rg 56 g10 0 refs1.length), (13, .int .i64 x4), (14, .ptr rg 14 g15 0 0), (15, .sl 1 rg 90 y.2 0 y.1.2.length), (70, eL eNode x.Nodes), (71, .int .i64 (x.Nodes.length : Int)), (72, .int .i64 x4), (78, eL (AV.int .i64) ((at' x.Nodes x4).Args)), (79, .int .i64 (((at' x.Nodes x4).Args).length : Int)), (80, .int .i64 y.1.1)]) (fun y => stL S rg [(2, .arr 3 [eFormula x], g3), (4, .arr 3 [.agg [.nil, .nil, .int .i64 0]], g4), (14, .arr 3 [eNode (at' x.Nodes x4)], g15), (56, .arr 1 (List.map (AV.int .i64) refs1), g10), (90, .arr 1 (List.map (AV.int .i64) y.1.2), y.2), (5000000, .arr 5 [.agg [.sl 1 rg 5000001 g6 0 order.length, .sl 1 rg 5000002 g7 0 place.length, .sl 3 rg 5000001002 g14 0 x7.length, .map rg 5000003 g8, .map rg 5000004 g9]], g5), (5000001, .arr 1 (List.map (AV.int .i64) order), g6), (5000002, .arr 1 (List.map (AV.int .i64) place), g7), (5000003, mapE (AV.int .i64) (.many [.i64, .i64, .i64]) x5, g8), (5000004, mapE (AV.int .i64) (.many [.i64, .i64, .i64]) x6, g9), (5000001002, .arr 3 (List.map eDNode x7), g14)]) ((0, []), g16) (canon (fc vr (fc vr (fc vr (fc vr (fc vr (fc vr (fc (VW.slen (by first | rfl | omega | (simp only [go_sem] <;> omega))) (fc vr (fc vr (fc vr (fc vr (fc vr (fc vr (fn)))))))))))))) (sc rfl (sc rfl (sc rfl (sc rfl (sc rfl (sc rfl (sc rfl (sc rfl (sc rfl (sc rfl (sc rfl (sn))))))))))))) h0 (fun y h => ?_)
      obtain ⟨⟨x8, args⟩, g17⟩ := y
      replace h := hI (x8, args) h
      show Vc _ _ _ _ (envOf [(2, .ptr rg 2 g3 0 0), (4, .ptr rg 4 g4 0 0), (10, .ptr rg 5000000 g5 0 0), (11, .sl 1 rg 56 g10 0 refs1.length), (13, .int .i64 x4), (14, .ptr rg 14 g15 0 0), (15, .sl 1 rg 90 g17 0 args.length), (70, eL eNode x.Nodes), (71, .int .i64 (x.Nodes.length : Int)), (72, .int .i64 x4), (78, eL (AV.int .i64) ((at' x.Nodes x4).Args)), (79, .int .i64 (((at' x.Nodes x4).Args).length : Int)), (80, .int .i64 x8)]) (stL S rg [(2, .arr 3 [eFormula x], g3), (4, .arr 3 [.agg [.nil, .nil, .int .i64 0]], g4), (14, .arr 3 [eNode (at' x.Nodes x4)], g15), (56, .arr 1 (List.map (AV.int .i64) refs1), g10), (90, .arr 1 (List.map (AV.int .i64) args), g17), (5000000, .arr 5 [.agg [.sl 1 rg 5000001 g6 0 order.length, .sl 1 rg 5000002 g7 0 place.length, .sl 3 rg 5000001002 g14 0 x7.length, .map rg 5000003 g8, .map rg 5000004 g9]], g5), (5000001, .arr 1 (List.map (AV.int .i64) order), g6), (5000002, .arr 1 (List.map (AV.int .i64) place), g7), (5000003, mapE (AV.int .i64) (.many [.i64, .i64, .i64]) x5, g8), (5000004, mapE (AV.int .i64) (.many [.i64, .i64, .i64]) x6, g9), (5000001002, .arr 3 (List.map eDNode x7), g14)])
      refine qZ (rZ (wZ rg (o_lss rfl rfl (nZ (qZ ?_)))))
      refine Vc.cond' rfl (fun hb4 => ?_) (fun hb4 => ?_)
      · replace h := h.1 hb4
        refine Vc.skip' ?_
        refine qZ ?_
        refine Vc.blk ?_
        refine qZ (rZ (wZ rg (o_idxL td25 sz3 (by decide) (fun _ => rfl) rfl rfl h.1 ?_)))
        replace h := h.2
        refine wZ rg (o_loadI1 sz3 ag3 rfl rfl (v := .int .i64 (at' ((at' x.Nodes x4).Args) x8)) rfl (asZ (.int .i64 (at' ((at' x.Nodes x4).Args) x8)) rfl (nZ (rZ (mvZ (.sl 1 rg 90 g17 0 args.length) rfl (mvZ (.sl 1 rg 56 g10 0 refs1.length) rfl (mvZ (.int .i64 (at' ((at' x.Nodes x4).Args) x8)) rfl (wZ rg (o_idxR0 td25 sz3 (by decide) rfl rfl h.1 ?_)))))))))
        have hi1 := h.1
        replace h := h.2
        refine wZ rg (o_loadR1 (atL (k := 56) rfl) sz3 ag3 rfl (lt_of hi1 (by first | rfl | omega | (simp only [go_sem] <;> omega))) rfl (v := .int .i64 (at' refs1 (at' ((at' x.Nodes x4).Args) x8))) rfl (wZ rg (o_bslice td25 ok3 zav3 (es := [.int .i64 (at' refs1 (at' ((at' x.Nodes x4).Args) x8))]) rfl (kk := 1) rfl rfl rfl rfl rfl rfl (fun g18 => ?_))))
        refine wZ rg (o_appR td25 bts3 ok3 zav3 (es := args) (xs := [(at' refs1 (at' ((at' x.Nodes x4).Args) x8))]) (enc := AV.int .i64) (atL (k := 90) rfl) (by first | rfl | omega | (simp only [go_sem] <;> omega)) (view_rowE (atL (k := 89) rfl) (by first | rfl | omega | (simp only [go_sem] <;> omega))) (kk := 1) rfl rfl (fun _ => rfl) (fun _ => rfl) h.1 rfl (fun _ => setL) (fun g19 => ?_))
        replace h := h.2
        refine asZ (.sl 1 rg 90 g19 0 ((args ++ [(at' refs1 (at' ((at' x.Nodes x4).Args) x8))]).length)) rfl (nZ (rZ (wZ rg (o_addG rfl rfl h.1 ?_))))
        replace h := h.2
        refine mvZ (.int .i64 (x8 + 1)) rfl (nZ ?_)
        exact ⟨(((x8 + 1), (args ++ [(at' refs1 (at' ((at' x.Nodes x4).Args) x8))])), g19), (canon (fc vr (fc vr (fc vr (fc vr (fc vr (fc vr (fc vr (fc vr (fc vr (fc vr (fc vr (fc vr (fc vr (fn)))))))))))))) (sc rfl (sc rfl (sc rfl (sc rfl (sc rfl (sc rfl (sc rfl (sc rfl (sc rfl (sc rfl (sc rfl (sn))))))))))))), h⟩
      replace h := h.2 hb4
      refine Vc.exit' (exB_self ?_)
      refine qZ ?_
      refine Vc.wk (canon_freeze (k := 90) (xs := List.map (AV.int .i64) args) rfl (es := [(2, .ptr rg 2 g3 0 0), (4, .ptr rg 4 g4 0 0), (10, .ptr rg 5000000 g5 0 0), (11, .sl 1 rg 56 g10 0 refs1.length), (13, .int .i64 x4), (14, .ptr rg 14 g15 0 0), (15, eL (AV.int .i64) args), (70, eL eNode x.Nodes), (71, .int .i64 (x.Nodes.length : Int)), (72, .int .i64 x4)]) (fc vr (fc vr (fc vr (fc (frz_ne rfl) (fc vr (fc vr (fc (frz_full rfl) (fc vr (fc vr (fc vr (fn))))))))))) (m := [(2, .arr 3 [eFormula x], g3), (4, .arr 3 [.agg [.nil, .nil, .int .i64 0]], g4), (14, .arr 3 [eNode (at' x.Nodes x4)], g15), (56, .arr 1 (List.map (AV.int .i64) refs1), g10), (5000000, .arr 5 [.agg [.sl 1 rg 5000001 g6 0 order.length, .sl 1 rg 5000002 g7 0 place.length, .sl 3 rg 5000001002 g14 0 x7.length, .map rg 5000003 g8, .map rg 5000004 g9]], g5), (5000001, .arr 1 (List.map (AV.int .i64) order), g6), (5000002, .arr 1 (List.map (AV.int .i64) place), g7), (5000003, mapE (AV.int .i64) (.many [.i64, .i64, .i64]) x5, g8), (5000004, mapE (AV.int .i64) (.many [.i64, .i64, .i64]) x6, g9), (5000001002, .arr 3 (List.map eDNode x7), g14)]) (sc rfl (sc rfl (sc rfl (sc rfl (sc rfl (sc rfl (sc rfl (sc rfl (sc rfl (sc rfl (sn)))))))))))) ?_
      have hg := h.1
      replace h := h.2
      obtain ⟨u2, u3, u4, r4, hc, h⟩ := h
      have hi2 := h.1
      replace h := h.2
      refine Vc.drawn' mixed rg (usOf [(8, wc (fun _ => .int .i64 r4) [(rg, 5000001), (rg, 5000002)] [(rg, 5000000), (rg, 5000001002), (rg, 5000003), (rg, 5000004)] (fun gm => [(rg, 5000000, .arr 5 [.agg [.sl 1 rg 5000001 g6 0 order.length, .sl 1 rg 5000002 g7 0 place.length, .sl 3 rg 5000001002 (gm 0) 0 u2.length, .map rg 5000003 g8, .map rg 5000004 g9]], g5), (rg, 5000001002, .arr 3 (List.map eDNode u2), (gm 0)), (rg, 5000003, mapE (AV.int .i64) (.many [.i64, .i64, .i64]) u3, g8), (rg, 5000004, mapE (AV.int .i64) (.many [.i64, .i64, .i64]) u4, g9)]))]) (by kernel_rfl) ?_
      refine dP rfl rfl (o_move (v := .sl 1 rg 56 g10 0 refs1.length) rfl (dP rfl rfl (o_faP td24 rfl rfl (by rw [sz3]; decide) rfl (dL (E := ([(rg, 2)], [])) rfl rfl (by simp) (cfn) (o_loadB1 (atL (k := 2) rfl) sz3 ag3 rfl rfl (v := .int .i64 x.Vars) rfl (dP rfl rfl (o_move (v := .int .i64 x4) rfl (dP rfl rfl (o_addG rfl rfl hg (dP rfl rfl (o_move (v := .ptr rg 5000000 g5 0 0) rfl ?_)))))))))))
      refine dL (E := ([(rg, 14)], [])) rfl rfl (by simp) (cfa (by simp [apartE]) (cfn)) (o_loadBA (atL (k := 14) rfl) sz105 (by decide) ag105 rfl rfl (v := eNode (at' x.Nodes x4)) rfl (dP rfl rfl (o_move (v := eL (AV.int .i64) args) rfl ?_)))
      refine dCE (vs := [.ptr rg 5000000 g5 0 0, eNode (at' x.Nodes x4), eL (AV.int .i64) args]) (V := fun _ => .int .i64 r4) (rd := [(rg, 5000001), (rg, 5000002)]) (wk := [(rg, 5000000), (rg, 5000001002), (rg, 5000003), (rg, 5000004)]) (wr := fun gm => [(rg, 5000000, .arr 5 [.agg [.sl 1 rg 5000001 g6 0 order.length, .sl 1 rg 5000002 g7 0 place.length, .sl 3 rg 5000001002 (gm 0) 0 u2.length, .map rg 5000003 g8, .map rg 5000004 g9]], g5), (rg, 5000001002, .arr 3 (List.map eDNode u2), (gm 0)), (rg, 5000003, mapE (AV.int .i64) (.many [.i64, .i64, .i64]) u3, g8), (rg, 5000004, mapE (AV.int .i64) (.many [.i64, .i64, .i64]) u4, g9)]) rfl (vl' vr (vl' vr (vl' vr (vn)))) rfl (cfo (by kernel_rfl) (cfa (by simp [apartE]) (cfn))) (by simp) (fun _ => rfl) (fun S' hA hB => ctrX (sx_c (ag hB 0 rfl (atL (k := 5000000) rfl)) (sx_c (ag hB 1 rfl (atL (k := 5000001002) rfl)) (sx_c (ag hB 2 rfl (atL (k := 5000003) rfl)) (sx_c (ag hB 3 rfl (atL (k := 5000004) rfl)) (sx_c (ag hA 0 rfl (atL (k := 5000001) rfl)) (sx_c (ag hA 1 rfl (atL (k := 5000002) rfl)) (sx_n))))))) (diagram_node__e_ctr (dk_c (ni_c (ni_o rfl) (ni_c (ni_o rfl) (ni_c (ni_o rfl) (ni_c (ni_o rfl) (ni_c (ni_o rfl) (ni_n)))))) (dk_c (ni_c (ni_o rfl) (ni_c (ni_o rfl) (ni_c (ni_o rfl) (ni_c (ni_o rfl) (ni_n))))) (dk_c (ni_c (ni_o rfl) (ni_c (ni_o rfl) (ni_c (ni_o rfl) (ni_n)))) (dk_c (ni_c (ni_o rfl) (ni_c (ni_o rfl) (ni_n))) (dk_c (ni_c (ni_o rfl) (ni_n)) (dk_c (ni_n) (dk_n))))))) hc (fun _ _ _ _ h3 he => by obtain ⟨rfl, rfl, rfl, rfl⟩ := he; exact ⟨fun i => [h3].getD i 0, rfl, sm_c (sm_c (sm_c (sm_c (sx_c (ag hA 0 rfl (atL (k := 5000001) rfl)) (sx_c (ag hA 1 rfl (atL (k := 5000002) rfl)) (sx_n))))))⟩))) (fun gm => ?_)
      refine vdT.eqS (sa_c (sa_c (sa_c (sa_c (sa_n) setL) setL) setL) setL) ?_
      refine dP rfl rfl (o_idxR0 td25 sz3 (by decide) rfl rfl hi2 (dL (E := ([], [(rg, 56)])) rfl rfl (by simp) (cfo (by kernel_rfl) (cfo (by kernel_rfl) (cfo (by kernel_rfl) (cfn)))) (o_storeR1 (atL (k := 56) rfl) sz3 (by decide) (x' := r4) (fun _ => rfl) rfl rfl (lt_of hi2 (by first | rfl | omega | (simp only [go_sem] <;> omega))) rfl rfl setL (dN (qZ (rZ (mvZ (.ptr rg 5000000 g5 0 0) rfl ?_)))))))
      refine mvZ (.sl 1 rg 56 g10 0 refs1.length) rfl (wZ rg (o_faP td24 rfl rfl (by rw [sz3]; decide) rfl (wZ rg (o_loadB1 (atL (k := 2) rfl) sz3 ag3 rfl rfl (v := .int .i64 x.Vars) rfl (mvZ (.int .i64 x4) rfl (wZ rg (o_addG rfl rfl h.1 ?_)))))))
      replace h := h.2
      refine wZ rg (o_idxR0 td25 sz3 (by decide) rfl rfl h.1 ?_)
      have hi3 := h.1
      replace h := h.2
      refine wZ rg (o_loadR1 (atL (k := 56) rfl) sz3 ag3 rfl (lt_of hi3 (by first | rfl | omega | (simp only [go_sem] <;> omega))) rfl (v := .int .i64 (at' (set' refs1 (x.Vars + x4) r4) (x.Vars + x4))) rfl ?_)
      refine wZ rg (o_call (us := [.ptr rg 5000000 g5 0 0, AV.int .i64 (at' (set' refs1 (x.Vars + x4) r4) (x.Vars + x4)), AV.int .i64 4096]) rfl (vl' vr (vl' vr (vl' vr (vn)))) (ctrX (sx_c (atL (k := 5000000) rfl) (sx_c (atL (k := 5000001) rfl) (sx_c (atL (k := 5000002) rfl) (sx_c (atL (k := 5000001002) rfl) (sx_c (atL (k := 5000003) rfl) (sx_c (atL (k := 5000004) rfl) (sx_n))))))) (decision_Table__Small__e_ctr (dk_c (ni_c (ni_o rfl) (ni_c (ni_o rfl) (ni_c (ni_o rfl) (ni_c (ni_o rfl) (ni_c (ni_o rfl) (ni_n)))))) (dk_c (ni_c (ni_o rfl) (ni_c (ni_o rfl) (ni_c (ni_o rfl) (ni_c (ni_o rfl) (ni_n))))) (dk_c (ni_c (ni_o rfl) (ni_c (ni_o rfl) (ni_c (ni_o rfl) (ni_n)))) (dk_c (ni_c (ni_o rfl) (ni_c (ni_o rfl) (ni_n))) (dk_c (ni_c (ni_o rfl) (ni_n)) (dk_c (ni_n) (dk_n))))))) h fun r5 h => ?_)))
      refine Wl.eqS (sx_c (atL (k := 5000000) rfl) (sx_c (atL (k := 5000001) rfl) (sx_c (atL (k := 5000002) rfl) (sx_c (atL (k := 5000001002) rfl) (sx_c (atL (k := 5000003) rfl) (sx_c (atL (k := 5000004) rfl) (sx_n))))))) ?_
      refine wZ rg (o_not rfl (nZ ?_))
      refine Vc.cond' rfl (fun hb5 => ?_) (fun hb5 => ?_)
      · replace h := h.1 hb5
        refine qZ (rZ (wZ rg (o_build td30 zav30 bok30 szs30 sz30 (ps := []) rfl rfl (v := .agg [.nil, .nil, .int .i64 0]) rfl (wZ rg (o_iface (by rw [td73]; trivial) (v := .int .i64 4) rfl (wZ rg (o_storeB (atL (k := 4) rfl) sz30 (by decide) rfl (w := .agg [.nil, .nil, .int .i64 0]) rfl rfl rfl (v := .agg [.nil, .nil, .int .i64 0]) rfl setL (asZ (.iface 73 (.int .i64 4)) rfl (nZ ?_)))))))))
        refine Vc.ret' ?_
        refine res_cellA (atL (k := 4) rfl) sz30 (by decide) ag30 rfl rfl (v := .agg [.nil, .nil, .int .i64 0]) rfl (res_tmp (v := .iface 73 (.int .i64 4)) rfl (res_nil ?_))
        show Gives _ (.tuple [.agg [.nil, .nil, .int .i64 0], .iface 73 (.int .i64 4)]) _
        exact gives_out hrg (VW.tupL (vl' (VW.aggL (vl' (VW.nilL) (vl' (VW.nilL) (vl' vr (vn))))) (vl' vr (vn)))) (hQ _ _ h)
      replace h := h.2 hb5
      refine Vc.skip' ?_
      refine rZ ?_
      refine wZ rg (o_addG rfl rfl h.1 ?_)
      replace h := h.2
      refine mvZ (.int .i64 (x4 + 1)) rfl (nZ ?_)
      exact ⟨(((x4 + 1), (set' refs1 (x.Vars + x4) r4), u3, u4, u2), (gm 0)), (canon (fc vr (fc vr (fc vr (fc (VW.slen (by first | rfl | omega | (simp only [go_sem] <;> omega))) (fc vr (fc vr (fc vr (fn)))))))) (sc rfl (sc rfl (sc rfl (sc rfl (sc rfl (sc rfl (sc rfl (sc rfl (sc rfl (sn))))))))))), h⟩
    replace h := h.2 hb3
    refine Vc.exit' (exB_self ?_)
    refine qZ (rZ (mvZ (.ptr rg 5000000 g5 0 0) rfl (mvZ (.sl 1 rg 56 g10 0 refs1.length) rfl (wZ rg (o_faP td24 rfl rfl (by rw [sz3]; decide) rfl (wZ rg (o_loadB1 (atL (k := 2) rfl) sz3 ag3 rfl rfl (v := .int .i64 x.Top) rfl (wZ rg (o_idxR0 td25 sz3 (by decide) rfl rfl h.1 ?_)))))))))
    have hi4 := h.1
    replace h := h.2
    refine wZ rg (o_loadR1 (atL (k := 56) rfl) sz3 ag3 rfl (lt_of hi4 (by first | rfl | omega | (simp only [go_sem] <;> omega))) rfl (v := .int .i64 (at' refs1 x.Top)) rfl ?_)
    refine wZ rg (o_call (us := [.ptr rg 5000000 g5 0 0, AV.int .i64 (at' refs1 x.Top)]) rfl (vl' vr (vl' vr (vn))) (ctrX (sx_c (atL (k := 5000000) rfl) (sx_c (atL (k := 5000001) rfl) (sx_c (atL (k := 5000002) rfl) (sx_c (atL (k := 5000001002) rfl) (sx_c (atL (k := 5000003) rfl) (sx_c (atL (k := 5000004) rfl) (sx_n))))))) (decision_Table__Export__e_ctr (dk_c (ni_c (ni_o rfl) (ni_c (ni_o rfl) (ni_c (ni_o rfl) (ni_c (ni_o rfl) (ni_c (ni_o rfl) (ni_n)))))) (dk_c (ni_c (ni_o rfl) (ni_c (ni_o rfl) (ni_c (ni_o rfl) (ni_c (ni_o rfl) (ni_n))))) (dk_c (ni_c (ni_o rfl) (ni_c (ni_o rfl) (ni_c (ni_o rfl) (ni_n)))) (dk_c (ni_c (ni_o rfl) (ni_c (ni_o rfl) (ni_n))) (dk_c (ni_c (ni_o rfl) (ni_n)) (dk_c (ni_n) (dk_n))))))) h fun r6 h => ?_)))
    refine Wl.eqS (sx_c (atL (k := 5000000) rfl) (sx_c (atL (k := 5000001) rfl) (sx_c (atL (k := 5000002) rfl) (sx_c (atL (k := 5000001002) rfl) (sx_c (atL (k := 5000003) rfl) (sx_c (atL (k := 5000004) rfl) (sx_n))))))) ?_
    refine wZ rg (o_storeB (atL (k := 4) rfl) sz30 (by decide) rfl (w := eDiagram r6) rfl rfl rfl (v := eDiagram r6) rfl setL (asZ .niface rfl (nZ ?_)))
    refine Vc.ret' ?_
    refine res_cellA (atL (k := 4) rfl) sz30 (by decide) ag30 rfl rfl (v := eDiagram r6) rfl (res_tmp (v := .niface) rfl (res_nil ?_))
    show Gives _ (.tuple [eDiagram r6, .niface]) _
    exact gives_out hrg (VW.tupL (vl' vr (vl' vr (vn)))) (hQ _ _ h)
  refine qZ (rZ (mvZ (.int .i64 r) rfl (wZ rg (o_gtr rfl rfl (nZ ?_)))))
  refine Vc.cond' rfl (fun hb6 => ?_) (fun hb6 => ?_)
  · replace h := h.1 hb6
    refine qZ (rZ (wZ rg (o_loadBA (atL (k := 2) rfl) sz24 (by decide) ag24 rfl rfl (v := eFormula f) rfl (wZ rg (o_call (us := [eFormula f]) rfl (vl' vr (vn)) (formula_Trim_ctr h fun r7 r8 h => (mvZ (.tuple [eFormula r7, eErr 73 r8]) rfl (wZ rg (o_extract (v := eFormula r7) rfl rfl rfl (wZ rg (o_extract (v := eErr 73 r8) rfl rfl rfl ?_)))))))))))
    refine wZ rg (o_storeB (atL (k := 2) rfl) sz24 (by decide) rfl (w := eFormula r7) rfl rfl rfl (v := eFormula r7) rfl setL (asZ (eErr 73 r8) rfl (nZ (qZ (rZ (mvZ (eErr 73 r8) rfl (wZ rg (o_isnon td32 (E := 73) rfl rfl rfl (nZ ?_)))))))))
    refine Vc.cond' rfl (fun hb7 => ?_) (fun hb7 => ?_)
    · replace h := h.1 hb7
      refine qZ (rZ (wZ rg (o_build td30 zav30 bok30 szs30 sz30 (ps := []) rfl rfl (v := .agg [.nil, .nil, .int .i64 0]) rfl (mvZ (eErr 73 r8) rfl (wZ rg (o_storeB (atL (k := 4) rfl) sz30 (by decide) rfl (w := .agg [.nil, .nil, .int .i64 0]) rfl rfl rfl (v := .agg [.nil, .nil, .int .i64 0]) rfl setL (asZ (eErr 73 r8) rfl (nZ ?_))))))))
      refine Vc.ret' ?_
      refine res_cellA (atL (k := 4) rfl) sz30 (by decide) ag30 rfl rfl (v := .agg [.nil, .nil, .int .i64 0]) rfl (res_tmp (v := eErr 73 r8) rfl (res_nil ?_))
      show Gives _ (.tuple [.agg [.nil, .nil, .int .i64 0], eErr 73 r8]) _
      exact gives_out hrg (VW.tupL (vl' (VW.aggL (vl' (VW.nilL) (vl' (VW.nilL) (vl' vr (vn))))) (vl' vr (vn)))) (hQ _ _ h)
    replace h := h.2 hb7
    refine Vc.skip' ?_
    exact ⟨(r7, (g1, g2)), (canon (fc vr (fc vr (fc vr (fn)))) (sc rfl (sc rfl (sn)))), h⟩
  replace h := h.2 hb6
  refine rZ ?_
  refine wZ rg (o_faP td24 rfl rfl (by rw [sz22]; decide) rfl (wZ rg (o_storeB (atL (k := 2) rfl) sz22 (by decide) rfl (w := .nil) rfl rfl rfl (v := .agg [.int .i64 f.Vars, .nil, .int .i64 f.Top]) rfl setL (nZ ?_))))
  exact ⟨((⟨f.Vars, [], f.Top⟩ : GFormula), (g1, g2)), (EWk.trans (EWk.ow (k := 2) (o' := .arr 3 [eFormula (⟨f.Vars, [], f.Top⟩ : GFormula)]) rfl (OW.one (VWL.vwc (vl' vr (vl' (VW.nilL) (vl' vr (vn))))))) (canon (fc vr (fc vr (fc vr (fn)))) (sc rfl (sc rfl (sn))))), h⟩
end Go.Proofs.Ytiamkdpljeemkaa
/- Walks of functions. Conditions: none. -/
namespace Go.Proofs.Ytiamkdpljeemkaa
open Go.Gg
set_option maxRecDepth 100000
theorem sifting_Reorder_ctr {d : GDiagram} {o : List Int} {Q : GDiagram → Option Int → Prop} {S : St} {R : AV → St → Prop} (h : sifting_Reorder_W d o Q) (hQ : ∀ r1 r2, Q r1 r2 → R (.tuple [eDiagram r1, eErr 73 r2]) S) :
    Ctr Try.prog 42 [eDiagram d, eL (AV.int .i64) o] S R := by
  unfold sifting_Reorder_W at h
  refine enterT Try.func42 rfl Try.ntmps42 Try.results42 (by kernel_rfl) (fun rg hrg => ?_)
  refine qZ (rZ (wZ rg (o_box (v := eDiagram d) rfl rfl (kk := 3) rfl (by decide) (fun g1 => (wZ rg (o_alloc zav30 ok30 (kk := 3) rfl (fun g2 => (asZ .niface rfl (nZ (qZ (qZ (rZ (wZ rg (o_loadBA (atL (k := 2) rfl) sz30 (by decide) ag30 rfl rfl (v := eDiagram d) rfl (wZ rg (o_call (us := [eDiagram d]) rfl (vl' vr (vn)) (diagram_Check_ctr h fun err h => (asZ (eErr 73 err) rfl (nZ (qZ (rZ ?_)))))))))))))))))))))
  refine mvZ (eErr 73 err) rfl (wZ rg (o_isnon td32 (E := 73) rfl rfl rfl (nZ ?_)))
  refine Vc.cond' rfl (fun hb => ?_) (fun hb => ?_)
  · replace h := h.1 hb
    refine qZ (rZ (wZ rg (o_build td30 zav30 bok30 szs30 sz30 (ps := []) rfl rfl (v := .agg [.nil, .nil, .int .i64 0]) rfl (mvZ (eErr 73 err) rfl (wZ rg (o_storeB (atL (k := 4) rfl) sz30 (by decide) rfl (w := .agg [.nil, .nil, .int .i64 0]) rfl rfl rfl (v := .agg [.nil, .nil, .int .i64 0]) rfl setL (asZ (eErr 73 err) rfl (nZ ?_))))))))
    refine Vc.ret' ?_
    refine res_cellA (atL (k := 4) rfl) sz30 (by decide) ag30 rfl rfl (v := .agg [.nil, .nil, .int .i64 0]) rfl (res_tmp (v := eErr 73 err) rfl (res_nil ?_))
    show Gives _ (.tuple [.agg [.nil, .nil, .int .i64 0], eErr 73 err]) _
    exact gives_out hrg (VW.tupL (vl' (VW.aggL (vl' (VW.nilL) (vl' (VW.nilL) (vl' vr (vn))))) (vl' vr (vn)))) (hQ _ _ h)
  replace h := h.2 hb
  refine Vc.skip' ?_
  refine qZ (qZ (rZ (mvZ (eL (AV.int .i64) o) rfl (mvZ (eL (AV.int .i64) o) rfl (wZ rg (o_len td25 rfl (wZ rg (o_call (us := [eL (AV.int .i64) o, AV.int .i64 (o.length : Int)]) rfl (vl' vr (vl' vr (vn))) (order_Check_ctr h fun err1 h => (asZ (eErr 73 err1) rfl (nZ (qZ (rZ (mvZ (eErr 73 err1) rfl (wZ rg (o_isnon td32 (E := 73) rfl rfl rfl (nZ ?_)))))))))))))))))
  refine Vc.cond' rfl (fun hb1 => ?_) (fun hb1 => ?_)
  · replace h := h.1 hb1
    refine qZ (rZ (wZ rg (o_build td30 zav30 bok30 szs30 sz30 (ps := []) rfl rfl (v := .agg [.nil, .nil, .int .i64 0]) rfl (mvZ (eErr 73 err1) rfl (wZ rg (o_storeB (atL (k := 4) rfl) sz30 (by decide) rfl (w := .agg [.nil, .nil, .int .i64 0]) rfl rfl rfl (v := .agg [.nil, .nil, .int .i64 0]) rfl setL (asZ (eErr 73 err1) rfl (nZ ?_))))))))
    refine Vc.ret' ?_
    refine res_cellA (atL (k := 4) rfl) sz30 (by decide) ag30 rfl rfl (v := .agg [.nil, .nil, .int .i64 0]) rfl (res_tmp (v := eErr 73 err1) rfl (res_nil ?_))
    show Gives _ (.tuple [.agg [.nil, .nil, .int .i64 0], eErr 73 err1]) _
    exact gives_out hrg (VW.tupL (vl' (VW.aggL (vl' (VW.nilL) (vl' (VW.nilL) (vl' vr (vn))))) (vl' vr (vn)))) (hQ _ _ h)
  replace h := h.2 hb1
  refine Vc.skip' ?_
  refine qZ (qZ (rZ (mvZ (eL (AV.int .i64) o) rfl (wZ rg (o_len td25 rfl (wZ rg (o_faP td30 rfl rfl (by rw [sz25]; decide) rfl (wZ rg (o_loadB1 (atL (k := 2) rfl) sz25 ag25 rfl rfl (v := eL (AV.int .i64) d.Order) rfl (wZ rg (o_len td25 rfl (wZ rg (o_neq rfl rfl (nZ ?_))))))))))))))
  refine Vc.cond' rfl (fun hb2 => ?_) (fun hb2 => ?_)
  · replace h := h.1 hb2
    refine qZ (rZ (wZ rg (o_build td30 zav30 bok30 szs30 sz30 (ps := []) rfl rfl (v := .agg [.nil, .nil, .int .i64 0]) rfl (wZ rg (o_iface (by rw [td73]; trivial) (v := .int .i64 11) rfl (wZ rg (o_storeB (atL (k := 4) rfl) sz30 (by decide) rfl (w := .agg [.nil, .nil, .int .i64 0]) rfl rfl rfl (v := .agg [.nil, .nil, .int .i64 0]) rfl setL (asZ (.iface 73 (.int .i64 11)) rfl (nZ ?_)))))))))
    refine Vc.ret' ?_
    refine res_cellA (atL (k := 4) rfl) sz30 (by decide) ag30 rfl rfl (v := .agg [.nil, .nil, .int .i64 0]) rfl (res_tmp (v := .iface 73 (.int .i64 11)) rfl (res_nil ?_))
    show Gives _ (.tuple [.agg [.nil, .nil, .int .i64 0], .iface 73 (.int .i64 11)]) _
    exact gives_out hrg (VW.tupL (vl' (VW.aggL (vl' (VW.nilL) (vl' (VW.nilL) (vl' vr (vn))))) (vl' vr (vn)))) (hQ _ _ h)
  replace h := h.2 hb2
  refine Vc.skip' ?_
  refine qZ (rZ (wZ rg (o_loadBA (atL (k := 2) rfl) sz30 (by decide) ag30 rfl rfl (v := eDiagram d) rfl (mvZ (eL (AV.int .i64) o) rfl (wZ rg (o_call (us := [eDiagram d, eL (AV.int .i64) o]) rfl (vl' vr (vl' vr (vn))) (sifting_reorder_ctr h fun r r1 h => (wZ rg (o_extract (v := eDiagram r) rfl rfl rfl (wZ rg (o_extract (v := eErr 73 r1) rfl rfl rfl ?_)))))))))))
  refine wZ rg (o_storeB (atL (k := 4) rfl) sz30 (by decide) rfl (w := eDiagram r) rfl rfl rfl (v := eDiagram r) rfl setL (asZ (eErr 73 r1) rfl (nZ ?_)))
  refine Vc.ret' ?_
  refine res_cellA (atL (k := 4) rfl) sz30 (by decide) ag30 rfl rfl (v := eDiagram r) rfl (res_tmp (v := eErr 73 r1) rfl (res_nil ?_))
  show Gives _ (.tuple [eDiagram r, eErr 73 r1]) _
  exact gives_out hrg (VW.tupL (vl' vr (vl' vr (vn)))) (hQ _ _ h)
end Go.Proofs.Ytiamkdpljeemkaa
/- Walks of functions. Conditions: none. -/
namespace Go.Proofs.Ytiamkdpljeemkaa
open Go.Gg
set_option maxRecDepth 100000
theorem ref14_Check_ctr {o : List Int} {vars : Int} {Q : Int → Prop} {S : St} {R : AV → St → Prop} (h : ref14_Check_W o vars Q) (hQ : ∀ r1, Q r1 → R (AV.int .i64 r1) S) :
    Ctr Try.prog 43 [eL (AV.int .i64) o, AV.int .i64 vars] S R := by
  unfold ref14_Check_W at h
  refine enterT Try.func43 rfl Try.ntmps43 Try.results43 (by kernel_rfl) (fun rg hrg => ?_)
  refine qZ (rZ (asZ (.int .i64 0) rfl (nZ (qZ (qZ (rZ (mvZ (.int .i64 vars) rfl (wZ rg (o_lss rfl rfl (mvZ (.bool (decide (vars < 0))) rfl ?_))))))))))
  refine Wl.guard rfl rfl (fun hb => ?_) (fun hb => ?_)
  · replace h := h.2 hb
    refine mvZ (.int .i64 vars) rfl ?_
    refine Wl.guardT rfl rfl hb ?_
    refine wZ rg (o_gtr rfl rfl (wZ rg (o_pickF rfl hb (v := .bool (decide (24 < vars))) rfl (nZ ?_))))
    refine Vc.cond' rfl (fun hb1 => ?_) (fun hb1 => ?_)
    · replace h := h.1 hb1
      refine qZ (rZ (asZ (.int .i64 3) rfl (nZ ?_)))
      refine Vc.ret' ?_
      refine res_tmp (v := .int .i64 3) rfl (res_nil ?_)
      show Gives _ (.int .i64 3) _
      exact gives_out hrg (VW.refl _) (hQ _ h)
    replace h := h.2 hb1
    refine Vc.skip' ?_
    refine qZ (qZ (rZ (mvZ (eL (AV.int .i64) o) rfl (wZ rg (o_len td25 rfl (mvZ (.int .i64 vars) rfl (wZ rg (o_neq rfl rfl (nZ ?_)))))))))
    refine Vc.cond' rfl (fun hb2 => ?_) (fun hb2 => ?_)
    · replace h := h.1 hb2
      refine qZ (rZ (asZ (.int .i64 11) rfl (nZ ?_)))
      refine Vc.ret' ?_
      refine res_tmp (v := .int .i64 11) rfl (res_nil ?_)
      show Gives _ (.int .i64 11) _
      exact gives_out hrg (VW.refl _) (hQ _ h)
    replace h := h.2 hb2
    refine Vc.skip' ?_
    refine qZ (qZ (rZ (asZ (.int .i64 0) rfl (nZ ?_))))
    refine Vc.blk ?_
    obtain ⟨I, μ, h0, hI⟩ := h
    refine Vc.loop' (σ := (Int)) (fun y => I y) (fun y => μ y) (fun y => envOf [(0, eL (AV.int .i64) o), (1, .int .i64 vars), (5, .int .i64 y)]) (fun y => stL S rg []) 0 (canon (fc vr (fc vr (fc vr (fn)))) (sn)) h0 (fun i h => ?_)
    replace h := hI i h
    show Vc _ _ _ _ (envOf [(0, eL (AV.int .i64) o), (1, .int .i64 vars), (5, .int .i64 i)]) (stL S rg [])
    refine qZ (qZ (rZ (mvZ (.int .i64 i) rfl (mvZ (.int .i64 vars) rfl (wZ rg (o_lss rfl rfl (nZ ?_)))))))
    refine Vc.cond' rfl (fun hb3 => ?_) (fun hb3 => ?_)
    · replace h := h.1 hb3
      refine Vc.skip' ?_
      refine qZ ?_
      refine Vc.blk ?_
      refine qZ (qZ (rZ (mvZ (eL (AV.int .i64) o) rfl (mvZ (.int .i64 i) rfl (wZ rg (o_idxL td25 sz3 (by decide) (fun _ => rfl) rfl rfl h.1 ?_))))))
      replace h := h.2
      refine wZ rg (o_loadI1 sz3 ag3 rfl rfl (v := .int .i64 (at' o i)) rfl (wZ rg (o_lss rfl rfl (mvZ (.bool (decide ((at' o i) < 0))) rfl ?_))))
      refine Wl.guard rfl rfl (fun hb4 => ?_) (fun hb4 => ?_)
      · replace h := h.2 hb4
        refine mvZ (eL (AV.int .i64) o) rfl ?_
        refine Wl.guardT rfl rfl hb4 ?_
        refine mvZ (.int .i64 i) rfl ?_
        refine Wl.guardT rfl rfl hb4 ?_
        refine wZ rg (o_idxL td25 sz3 (by decide) (fun _ => rfl) rfl rfl h.1 ?_)
        replace h := h.2
        refine Wl.guardT rfl rfl hb4 ?_
        refine wZ rg (o_loadI1 sz3 ag3 rfl rfl (v := .int .i64 (at' o i)) rfl ?_)
        refine Wl.guardT rfl rfl hb4 ?_
        refine mvZ (.int .i64 vars) rfl ?_
        refine Wl.guardT rfl rfl hb4 ?_
        refine wZ rg (o_geq rfl rfl (wZ rg (o_pickF rfl hb4 (v := .bool (decide (vars ≤ (at' o i)))) rfl (nZ ?_))))
        refine Vc.cond' rfl (fun hb5 => ?_) (fun hb5 => ?_)
        · replace h := h.1 hb5
          refine qZ (rZ (asZ (.int .i64 3) rfl (nZ ?_)))
          refine Vc.ret' ?_
          refine res_tmp (v := .int .i64 3) rfl (res_nil ?_)
          show Gives _ (.int .i64 3) _
          exact gives_out hrg (VW.refl _) (hQ _ h)
        replace h := h.2 hb5
        refine Vc.skip' ?_
        refine qZ (rZ (asZ (.int .i64 0) rfl (nZ ?_)))
        refine Vc.blk ?_
        obtain ⟨I, μ, h0, hI⟩ := h
        refine Vc.loop' (σ := (Int)) (fun y => I y) (fun y => μ y) (fun y => envOf [(0, eL (AV.int .i64) o), (1, .int .i64 vars), (5, .int .i64 i), (6, .int .i64 y)]) (fun y => stL S rg []) 0 (canon (fc vr (fc vr (fc vr (fc vr (fn))))) (sn)) h0 (fun k1 h => ?_)
        replace h := hI k1 h
        show Vc _ _ _ _ (envOf [(0, eL (AV.int .i64) o), (1, .int .i64 vars), (5, .int .i64 i), (6, .int .i64 k1)]) (stL S rg [])
        refine qZ (qZ (rZ (mvZ (.int .i64 k1) rfl (mvZ (.int .i64 i) rfl (wZ rg (o_lss rfl rfl (nZ ?_)))))))
        refine Vc.cond' rfl (fun hb6 => ?_) (fun hb6 => ?_)
        · replace h := h.1 hb6
          refine Vc.skip' ?_
          refine qZ ?_
          refine Vc.blk ?_
          refine qZ ?_
          have hg := h.1
          replace h := h.2
          have hg1 := h.1
          replace h := h.2
          refine Vc.drawn' mixed rg (fun _ => jcr2) (by kernel_rfl) ?_
          refine dP rfl rfl (o_move (v := eL (AV.int .i64) o) rfl (dP rfl rfl (o_move (v := .int .i64 k1) rfl (dP rfl rfl (o_idxL td25 sz3 (by decide) (fun _ => rfl) rfl rfl hg (dP rfl rfl (o_loadI1 sz3 ag3 rfl rfl (v := .int .i64 (at' o k1)) rfl (dP rfl rfl (o_move (v := eL (AV.int .i64) o) rfl (dP rfl rfl (o_move (v := .int .i64 i) rfl ?_)))))))))))
          refine dP rfl rfl (o_idxL td25 sz3 (by decide) (fun _ => rfl) rfl rfl hg1 (dP rfl rfl (o_loadI1 sz3 ag3 rfl rfl (v := .int .i64 (at' o i)) rfl (dP rfl rfl (o_eql rfl rfl (dN ?_))))))
          refine Vc.cond' rfl (fun hb7 => ?_) (fun hb7 => ?_)
          · replace h := h.1 hb7
            refine qZ (rZ (asZ (.int .i64 6) rfl (nZ ?_)))
            refine Vc.ret' ?_
            refine res_tmp (v := .int .i64 6) rfl (res_nil ?_)
            show Gives _ (.int .i64 6) _
            exact gives_out hrg (VW.refl _) (hQ _ h)
          replace h := h.2 hb7
          refine Vc.skip' ?_
          refine rZ ?_
          refine mvZ (.int .i64 k1) rfl (wZ rg (o_addG rfl rfl h.1 ?_))
          replace h := h.2
          refine asZ (.int .i64 (k1 + 1)) rfl (nZ ?_)
          exact ⟨(k1 + 1), (canon (fc vr (fc vr (fc vr (fc vr (fn))))) (sn)), h⟩
        replace h := h.2 hb6
        refine Vc.exit' (exB_self ?_)
        refine rZ ?_
        refine mvZ (.int .i64 i) rfl (wZ rg (o_addG rfl rfl h.1 ?_))
        replace h := h.2
        refine asZ (.int .i64 (i + 1)) rfl (nZ ?_)
        exact ⟨(i + 1), (canon (fc vr (fc vr (fc vr (fn)))) (sn)), h⟩
      replace h := h.1 hb4
      refine Wl.guardF rfl rfl hb4 rfl ?_
      refine Wl.guardF rfl rfl hb4 rfl ?_
      refine Wl.guardF rfl rfl hb4 rfl ?_
      refine Wl.guardF rfl rfl hb4 rfl ?_
      refine Wl.guardF rfl rfl hb4 rfl ?_
      refine wZ rg (o_pickT rfl hb4 (v := .bool true) rfl (nZ ?_))
      refine Vc.cond' rfl (fun _ => ?_) (fun hb => Bool.noConfusion hb)
      refine qZ (rZ (asZ (.int .i64 3) rfl (nZ ?_)))
      refine Vc.ret' ?_
      refine res_tmp (v := .int .i64 3) rfl (res_nil ?_)
      show Gives _ (.int .i64 3) _
      exact gives_out hrg (VW.refl _) (hQ _ h)
    replace h := h.2 hb3
    refine Vc.exit' (exB_self ?_)
    refine qZ (rZ (asZ (.int .i64 0) rfl (nZ ?_)))
    refine Vc.ret' ?_
    refine res_tmp (v := .int .i64 0) rfl (res_nil ?_)
    show Gives _ (.int .i64 0) _
    exact gives_out hrg (VW.refl _) (hQ _ h)
  replace h := h.1 hb
  refine Wl.guardF rfl rfl hb rfl ?_
  refine wZ rg (o_pickT rfl hb (v := .bool true) rfl (nZ ?_))
  refine Vc.cond' rfl (fun _ => ?_) (fun hb => Bool.noConfusion hb)
  refine qZ (rZ (asZ (.int .i64 3) rfl (nZ ?_)))
  refine Vc.ret' ?_
  refine res_tmp (v := .int .i64 3) rfl (res_nil ?_)
  show Gives _ (.int .i64 3) _
  exact gives_out hrg (VW.refl _) (hQ _ h)
end Go.Proofs.Ytiamkdpljeemkaa
