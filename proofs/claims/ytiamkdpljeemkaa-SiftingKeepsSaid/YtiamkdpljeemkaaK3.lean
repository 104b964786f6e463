/- Walks of functions. Conditions: none. -/
import Derived.Test.YtiamkdpljeemkaaWa
import Derived.Test.YtiamkdpljeemkaaGgTy
import Derived.Test.YtiamkdpljeemkaaGd
import Derived.Test.YtiamkdpljeemkaaK2
import Derived.Test.YtiamkdpljeemkaaK1
/- Walks of functions. Conditions: none. -/
namespace Go.Proofs.Ytiamkdpljeemkaa
open Go.Gg
set_option maxRecDepth 100000
theorem ref15_add__e_ctr {fu : Nat} : ∀ {Order : List Int} {Root : Int} {table : List Bool} {level : Int} {state : Int} {u : List GDNode} {q0 k0 g0 : Nat} (_hdk : DK [(q0, k0)]) {Q : List GDNode → List Int → Int → Int → Prop} {S : St} {R : AV → St → Prop} (_h : ref15_add__e_W fu Order Root table level state u Q) (_hQ : ∀ r1 r2 r3 r4, ∀ h0, Q r1 r2 r3 r4 → R (.tuple [.agg [eL (AV.int .i64) r2, .sl 3 q0 k0 h0 0 r1.length, .int .i64 r3], AV.int .i64 r4]) (stX S [(q0, k0, .arr 3 (List.map eDNode r1), h0)])),
    Ctr Try.prog 139 [.agg [eL (AV.int .i64) Order, .sl 3 q0 k0 g0 0 u.length, .int .i64 Root], eL AV.bool table, AV.int .i64 level, AV.int .i64 state] (stX S [(q0, k0, .arr 3 (List.map eDNode u), g0)]) R := by
  induction fu with
  | zero =>
    intro Order Root table level state u q0 k0 g0 hdk Q S R h hQ
    exact False.elim h
  | succ fu ih =>
  intro Order Root table level state u q0 k0 g0 hdk Q S R h hQ
  rw [ref15_add__e_W] at h
  refine enterT Try.func139 rfl Try.ntmps139 Try.results139 (by kernel_rfl) (fun rg hrg => ?_)
  have hdx : DX [(q0, k0, .arr 3 (List.map eDNode u), g0)] := hdk
  have hfr := fun X' e => fresh_set (S := S) (rg := rg) (X := [(q0, k0, .arr 3 (List.map eDNode u), g0)]) (X' := X') e hrg
  have hne0 := fresh_ne hdx hrg 0 rfl
  refine qZ (rZ (wZ rg (o_box (v := .agg [eL (AV.int .i64) Order, .sl 3 q0 k0 g0 0 u.length, .int .i64 Root]) rfl rfl (kk := 3) rfl (by decide) (fun g1 => (wZ rg (o_alloc zav30 ok30 (kk := 3) rfl (fun g2 => (asZ (.int .i64 0) rfl (nZ (qZ (qZ (rZ (mvZ (.int .i64 level) rfl (wZ rg (o_faP td30 rfl rfl (by rw [sz25]; decide) rfl ?_)))))))))))))))
  refine wZ rg (o_loadB1 (atL (k := 4) rfl) sz25 ag25 rfl rfl (v := eL (AV.int .i64) Order) rfl (wZ rg (o_len td25 rfl (wZ rg (o_eql rfl rfl (nZ ?_))))))
  refine Vc.cond' rfl (fun hb => ?_) (fun hb => ?_)
  · replace h := h.1 hb
    refine qZ (qZ (rZ (mvZ (eL AV.bool table) rfl (mvZ (.int .i64 state) rfl (wZ rg (o_idxL td110 sz4 (by decide) (fun _ => rfl) rfl rfl h.1 ?_))))))
    replace h := h.2
    refine wZ rg (o_loadI1 sz4 ag4 rfl rfl (v := .bool (at' table state)) rfl (nZ ?_))
    refine Vc.cond' rfl (fun hb1 => ?_) (fun hb1 => ?_)
    · replace h := h.1 hb1
      refine qZ (rZ (wZ rg (o_loadBA (atL (k := 4) rfl) sz30 (by decide) ag30 rfl rfl (v := .agg [eL (AV.int .i64) Order, .sl 3 q0 k0 g0 0 u.length, .int .i64 Root]) rfl (wZ rg (o_storeB (atL (k := 8) rfl) sz30 (by decide) rfl (w := .agg [eL (AV.int .i64) Order, .sl 3 q0 k0 g0 0 u.length, .int .i64 Root]) rfl rfl rfl (v := .agg [eL (AV.int .i64) Order, .sl 3 q0 k0 g0 0 u.length, .int .i64 Root]) rfl setL ?_)))))
      refine asZ (.int .i64 1) rfl (nZ ?_)
      refine Vc.ret' ?_
      refine res_cellA (atL (k := 8) rfl) sz30 (by decide) ag30 rfl rfl (v := .agg [eL (AV.int .i64) Order, .sl 3 q0 k0 g0 0 u.length, .int .i64 Root]) rfl (res_tmp (v := .int .i64 1) rfl (res_nil ?_))
      show Gives _ (.tuple [.agg [eL (AV.int .i64) Order, .sl 3 q0 k0 g0 0 u.length, .int .i64 Root], .int .i64 1]) _
      exact gives_out (hfr _ rfl) (VW.tupL (vl' vr (vl' vr (vn)))) (hQ _ _ _ _ _ h)
    replace h := h.2 hb1
    refine Vc.skip' ?_
    refine qZ (rZ (wZ rg (o_loadBA (atL (k := 4) rfl) sz30 (by decide) ag30 rfl rfl (v := .agg [eL (AV.int .i64) Order, .sl 3 q0 k0 g0 0 u.length, .int .i64 Root]) rfl (wZ rg (o_storeB (atL (k := 8) rfl) sz30 (by decide) rfl (w := .agg [eL (AV.int .i64) Order, .sl 3 q0 k0 g0 0 u.length, .int .i64 Root]) rfl rfl rfl (v := .agg [eL (AV.int .i64) Order, .sl 3 q0 k0 g0 0 u.length, .int .i64 Root]) rfl setL ?_)))))
    refine asZ (.int .i64 0) rfl (nZ ?_)
    refine Vc.ret' ?_
    refine res_cellA (atL (k := 8) rfl) sz30 (by decide) ag30 rfl rfl (v := .agg [eL (AV.int .i64) Order, .sl 3 q0 k0 g0 0 u.length, .int .i64 Root]) rfl (res_tmp (v := .int .i64 0) rfl (res_nil ?_))
    show Gives _ (.tuple [.agg [eL (AV.int .i64) Order, .sl 3 q0 k0 g0 0 u.length, .int .i64 Root], .int .i64 0]) _
    exact gives_out (hfr _ rfl) (VW.tupL (vl' vr (vl' vr (vn)))) (hQ _ _ _ _ _ h)
  replace h := h.2 hb
  refine Vc.skip' ?_
  refine qZ (rZ (wZ rg (o_loadBA (atL (k := 4) rfl) sz30 (by decide) ag30 rfl rfl (v := .agg [eL (AV.int .i64) Order, .sl 3 q0 k0 g0 0 u.length, .int .i64 Root]) rfl (mvZ (eL AV.bool table) rfl (mvZ (.int .i64 level) rfl (wZ rg (o_addG rfl rfl h.1 ?_)))))))
  replace h := h.2
  refine mvZ (.int .i64 state) rfl (wZ rg (o_call (us := [.agg [eL (AV.int .i64) Order, .sl 3 q0 k0 g0 0 u.length, .int .i64 Root], eL AV.bool table, AV.int .i64 (level + 1), AV.int .i64 state]) rfl (vl' vr (vl' vr (vl' vr (vl' vr (vn))))) (ctrX (sx_c (atX hne0 hdx 0 rfl) (sx_n)) (ih (dk_c (ni_n) (dk_n)) h fun u1 r r1 r2 g3 h => ?_))))
  refine Wl.eqS (sy_c (sx_n) (setX hne0 hdx 0 rfl rfl)) ?_
  refine mvZ (.tuple [.agg [eL (AV.int .i64) r, .sl 3 q0 k0 g3 0 u1.length, .int .i64 r1], .int .i64 r2]) rfl (wZ rg (o_extract (v := .agg [eL (AV.int .i64) r, .sl 3 q0 k0 g3 0 u1.length, .int .i64 r1]) rfl rfl rfl (wZ rg (o_extract (v := .int .i64 r2) rfl rfl rfl ?_))))
  refine wZ rg (o_storeB (atL (k := 4) rfl) sz30 (by decide) rfl (w := .agg [eL (AV.int .i64) r, .sl 3 q0 k0 g3 0 u1.length, .int .i64 r1]) rfl rfl rfl (v := .agg [eL (AV.int .i64) r, .sl 3 q0 k0 g3 0 u1.length, .int .i64 r1]) rfl setL (asZ (.int .i64 r2) rfl (nZ (qZ ?_))))
  have hg := h.1
  replace h := h.2
  have hg1 := h.1
  replace h := h.2
  have hg2 := h.1
  replace h := h.2
  obtain ⟨u2, r3, r4, r5, hc, h⟩ := h
  refine Vc.drawn' mixed rg (usOf [(12, wc (fun gm => .tuple [.agg [eL (AV.int .i64) r3, .sl 3 q0 k0 (gm 0) 0 u2.length, .int .i64 r4], .int .i64 r5]) [] [(q0, k0)] (fun gm => [(q0, k0, .arr 3 (List.map eDNode u2), (gm 0))]))]) (by kernel_rfl) ?_
  refine dL (E := ([(rg, 4)], [])) rfl rfl (by simp) (cfn) (o_loadBA (atL (k := 4) rfl) sz30 (by decide) ag30 rfl rfl (v := .agg [eL (AV.int .i64) r, .sl 3 q0 k0 g3 0 u1.length, .int .i64 r1]) rfl (dP rfl rfl (o_move (v := eL AV.bool table) rfl (dP rfl rfl (o_move (v := .int .i64 level) rfl (dP rfl rfl (o_addG rfl rfl hg (dP rfl rfl (o_move (v := .int .i64 state) rfl ?_)))))))))
  refine dP rfl rfl (o_faP td30 rfl rfl (by rw [sz25]; decide) rfl (dL (E := ([(rg, 4)], [])) rfl rfl (by simp) (cfa (by simp [apartE]) (cfn)) (o_loadB1 (atL (k := 4) rfl) sz25 ag25 rfl rfl (v := eL (AV.int .i64) r) rfl (dP rfl rfl (o_move (v := .int .i64 level) rfl (dP rfl rfl (o_idxL td25 sz3 (by decide) (fun _ => rfl) rfl rfl hg1 ?_)))))))
  refine dP rfl rfl (o_loadI1 sz3 ag3 rfl rfl (v := .int .i64 (at' r level)) rfl (dP rfl rfl (o_shlG rfl rfl hg2 (dP rfl rfl (o_or rfl rfl ?_)))))
  refine dCE (vs := [.agg [eL (AV.int .i64) r, .sl 3 q0 k0 g3 0 u1.length, .int .i64 r1], eL AV.bool table, AV.int .i64 (level + 1), AV.int .i64 (bits .or .i64 state (1 * 2 ^ (Int.toNat (at' r level))))]) (V := fun gm => .tuple [.agg [eL (AV.int .i64) r3, .sl 3 q0 k0 (gm 0) 0 u2.length, .int .i64 r4], .int .i64 r5]) (rd := []) (wk := [(q0, k0)]) (wr := fun gm => [(q0, k0, .arr 3 (List.map eDNode u2), (gm 0))]) rfl (vl' vr (vl' vr (vl' vr (vl' vr (vn))))) rfl (cfo (by kernel_rfl) (cfo (by kernel_rfl) (cfn))) (by simp) (fun _ => rfl) (fun S' hA hB => ctrX (sx_c (ag hB 0 rfl (atX hne0 hdx 0 rfl)) (sx_n)) (ih (dk_c (ni_n) (dk_n)) hc (fun _ _ _ _ h0 he => by obtain ⟨rfl, rfl, rfl, rfl⟩ := he; exact ⟨fun i => [h0].getD i 0, rfl, sm_c (sx_n)⟩))) (fun gm => ?_)
  refine vdT.eqS (sa_c (sa_n) (setX hne0 hdx 0 rfl rfl)) ?_
  refine dP rfl rfl (o_move (v := .tuple [.agg [eL (AV.int .i64) r3, .sl 3 q0 k0 (gm 0) 0 u2.length, .int .i64 r4], .int .i64 r5]) rfl (dP rfl rfl (o_extract (v := .agg [eL (AV.int .i64) r3, .sl 3 q0 k0 (gm 0) 0 u2.length, .int .i64 r4]) rfl rfl rfl (dP rfl rfl (o_extract (v := .int .i64 r5) rfl rfl rfl ?_)))))
  refine dL (E := ([], [(rg, 4)])) rfl rfl (by simp) (cfo (by kernel_rfl) (cfo (by kernel_rfl) (cfo (by kernel_rfl) (cfn)))) (o_storeB (atL (k := 4) rfl) sz30 (by decide) rfl (w := .agg [eL (AV.int .i64) r3, .sl 3 q0 k0 (gm 0) 0 u2.length, .int .i64 r4]) rfl rfl rfl (v := .agg [eL (AV.int .i64) r3, .sl 3 q0 k0 (gm 0) 0 u2.length, .int .i64 r4]) rfl setL (dP rfl rfl (o_assign (v := .int .i64 r5) rfl (dN ?_))))
  refine qZ (qZ (rZ (mvZ (.int .i64 r2) rfl (mvZ (.int .i64 r5) rfl (wZ rg (o_eql rfl rfl (nZ ?_)))))))
  refine Vc.cond' rfl (fun hb2 => ?_) (fun hb2 => ?_)
  · replace h := h.1 hb2
    refine qZ (rZ (wZ rg (o_loadBA (atL (k := 4) rfl) sz30 (by decide) ag30 rfl rfl (v := .agg [eL (AV.int .i64) r3, .sl 3 q0 k0 (gm 0) 0 u2.length, .int .i64 r4]) rfl (mvZ (.int .i64 r2) rfl ?_))))
    refine wZ rg (o_storeB (atL (k := 8) rfl) sz30 (by decide) rfl (w := .agg [eL (AV.int .i64) r3, .sl 3 q0 k0 (gm 0) 0 u2.length, .int .i64 r4]) rfl rfl rfl (v := .agg [eL (AV.int .i64) r3, .sl 3 q0 k0 (gm 0) 0 u2.length, .int .i64 r4]) rfl setL (asZ (.int .i64 r2) rfl (nZ ?_)))
    refine Vc.ret' ?_
    refine res_cellA (atL (k := 8) rfl) sz30 (by decide) ag30 rfl rfl (v := .agg [eL (AV.int .i64) r3, .sl 3 q0 k0 (gm 0) 0 u2.length, .int .i64 r4]) rfl (res_tmp (v := .int .i64 r2) rfl (res_nil ?_))
    show Gives _ (.tuple [.agg [eL (AV.int .i64) r3, .sl 3 q0 k0 (gm 0) 0 u2.length, .int .i64 r4], .int .i64 r2]) _
    exact gives_out (hfr _ rfl) (VW.tupL (vl' vr (vl' vr (vn)))) (hQ _ _ _ _ _ h)
  replace h := h.2 hb2
  refine Vc.skip' ?_
  refine qZ (rZ (wZ rg (o_faP td30 rfl rfl (by rw [sz25]; decide) rfl (wZ rg (o_loadB1 (atL (k := 4) rfl) sz25 ag25 rfl rfl (v := eL (AV.int .i64) r3) rfl (mvZ (.int .i64 level) rfl (wZ rg (o_idxL td25 sz3 (by decide) (fun _ => rfl) rfl rfl h.1 ?_))))))))
  replace h := h.2
  refine wZ rg (o_loadI1 sz3 ag3 rfl rfl (v := .int .i64 (at' r3 level)) rfl (mvZ (.int .i64 r2) rfl (mvZ (.int .i64 r5) rfl (wZ rg (o_build td97 zav97 bok97 szs97 sz97 (ps := [(0, .int .i64 (at' r3 level)), (1, .int .i64 r2), (2, .int .i64 r5)]) rfl rfl (v := .agg [.int .i64 (at' r3 level), .int .i64 r2, .int .i64 r5]) rfl (wZ rg (o_alloc zav97 ok97 (kk := 3) rfl (fun g4 => ?_))))))))
  refine wZ rg (o_storeB (atL (k := 12) rfl) sz97 (by decide) rfl (w := .agg [.int .i64 (at' r3 level), .int .i64 r2, .int .i64 r5]) rfl rfl rfl (v := .agg [.int .i64 (at' r3 level), .int .i64 r2, .int .i64 r5]) rfl setL (nZ (qZ (qZ (rZ (asZ (.int .i64 0) rfl (nZ ?_)))))))
  refine Vc.blk ?_
  obtain ⟨I, μ, h0, hI⟩ := h
  refine Vc.loop' (σ := (Int)) (fun y => I y) (fun y => μ y) (fun y => envOf [(4, .ptr rg 4 g1 0 0), (8, .ptr rg 8 g2 0 0), (12, .ptr rg 12 g4 0 0), (13, .int .i64 y)]) (fun y => stL (stX S [(q0, k0, .arr 3 (List.map eDNode u2), (gm 0))]) rg [(4, .arr 3 [.agg [eL (AV.int .i64) r3, .sl 3 q0 k0 (gm 0) 0 u2.length, .int .i64 r4]], g1), (8, .arr 3 [.agg [.nil, .nil, .int .i64 0]], g2), (12, .arr 3 [.agg [.int .i64 (at' r3 level), .int .i64 r2, .int .i64 r5]], g4)]) 0 (canon (fc vr (fc vr (fc vr (fc vr (fn))))) (sc rfl (sc rfl (sc rfl (sn))))) h0 (fun i h => ?_)
  replace h := hI i h
  show Vc _ _ _ _ (envOf [(4, .ptr rg 4 g1 0 0), (8, .ptr rg 8 g2 0 0), (12, .ptr rg 12 g4 0 0), (13, .int .i64 i)]) (stL (stX S [(q0, k0, .arr 3 (List.map eDNode u2), (gm 0))]) rg [(4, .arr 3 [.agg [eL (AV.int .i64) r3, .sl 3 q0 k0 (gm 0) 0 u2.length, .int .i64 r4]], g1), (8, .arr 3 [.agg [.nil, .nil, .int .i64 0]], g2), (12, .arr 3 [.agg [.int .i64 (at' r3 level), .int .i64 r2, .int .i64 r5]], g4)])
  refine qZ (qZ (rZ (mvZ (.int .i64 i) rfl (wZ rg (o_faP td30 rfl rfl (by rw [sz28]; decide) rfl (wZ rg (o_loadB1 (atL (k := 4) rfl) sz28 ag28 rfl rfl (v := .sl 3 q0 k0 (gm 0) 0 u2.length) rfl (wZ rg (o_lenR td28 rfl (wZ rg (o_lss rfl rfl (nZ ?_))))))))))))
  refine Vc.cond' rfl (fun hb3 => ?_) (fun hb3 => ?_)
  · replace h := h.1 hb3
    refine Vc.skip' ?_
    refine qZ ?_
    refine Vc.blk ?_
    refine qZ ?_
    have hi := h.1
    replace h := h.2
    refine Vc.drawn' mixed rg (fun _ => jcr2) (by kernel_rfl) ?_
    refine dP rfl rfl (o_faP td30 rfl rfl (by rw [sz28]; decide) rfl (dL (E := ([(rg, 4)], [])) rfl rfl (by simp) (cfn) (o_loadB1 (atL (k := 4) rfl) sz28 ag28 rfl rfl (v := .sl 3 q0 k0 (gm 0) 0 u2.length) rfl (dP rfl rfl (o_move (v := .int .i64 i) rfl (dP rfl rfl (o_idxR0 td28 sz97 (by decide) rfl rfl hi ?_)))))))
    refine dL (E := ([(q0, k0)], [])) rfl rfl (by simp) (cfo (by kernel_rfl) (cfn)) (o_loadRA (atX hne0 hdx 0 rfl) sz97 (by decide) ag97 rfl (lt_of hi (by first | rfl | omega | (simp only [go_sem] <;> omega))) rfl (v := eDNode (at' u2 i)) rfl ?_)
    refine dL (E := ([(rg, 12)], [])) rfl rfl (by simp) (cfa (by simp [apartE]) (cfa (by simp [apartE]) (cfn))) (o_loadBA (atL (k := 12) rfl) sz97 (by decide) ag97 rfl rfl (v := .agg [.int .i64 (at' r3 level), .int .i64 r2, .int .i64 r5]) rfl (dP rfl rfl (o_eqlS ksh97 rfl rfl rfl rfl (dN ?_))))
    refine Vc.cond' rfl (fun hb4 => ?_) (fun hb4 => ?_)
    · replace h := h.1 hb4
      refine qZ (rZ (wZ rg (o_loadBA (atL (k := 4) rfl) sz30 (by decide) ag30 rfl rfl (v := .agg [eL (AV.int .i64) r3, .sl 3 q0 k0 (gm 0) 0 u2.length, .int .i64 r4]) rfl (mvZ (.int .i64 i) rfl (wZ rg (o_addG rfl rfl h.1 ?_))))))
      replace h := h.2
      refine wZ rg (o_storeB (atL (k := 8) rfl) sz30 (by decide) rfl (w := .agg [eL (AV.int .i64) r3, .sl 3 q0 k0 (gm 0) 0 u2.length, .int .i64 r4]) rfl rfl rfl (v := .agg [eL (AV.int .i64) r3, .sl 3 q0 k0 (gm 0) 0 u2.length, .int .i64 r4]) rfl setL (asZ (.int .i64 (2 + i)) rfl (nZ ?_)))
      refine Vc.ret' ?_
      refine res_cellA (atL (k := 8) rfl) sz30 (by decide) ag30 rfl rfl (v := .agg [eL (AV.int .i64) r3, .sl 3 q0 k0 (gm 0) 0 u2.length, .int .i64 r4]) rfl (res_tmp (v := .int .i64 (2 + i)) rfl (res_nil ?_))
      show Gives _ (.tuple [.agg [eL (AV.int .i64) r3, .sl 3 q0 k0 (gm 0) 0 u2.length, .int .i64 r4], .int .i64 (2 + i)]) _
      exact gives_out (hfr _ rfl) (VW.tupL (vl' vr (vl' vr (vn)))) (hQ _ _ _ _ _ h)
    replace h := h.2 hb4
    refine Vc.skip' ?_
    refine rZ ?_
    refine mvZ (.int .i64 i) rfl (wZ rg (o_addG rfl rfl h.1 ?_))
    replace h := h.2
    refine asZ (.int .i64 (i + 1)) rfl (nZ ?_)
    exact ⟨(i + 1), (canon (fc vr (fc vr (fc vr (fc vr (fn))))) (sc rfl (sc rfl (sc rfl (sn))))), h⟩
  replace h := h.2 hb3
  refine Vc.exit' (exB_self ?_)
  refine qZ (rZ (wZ rg (o_faP td30 rfl rfl (by rw [sz28]; decide) rfl (wZ rg (o_loadB1 (atL (k := 4) rfl) sz28 ag28 rfl rfl (v := .sl 3 q0 k0 (gm 0) 0 u2.length) rfl (wZ rg (o_loadBA (atL (k := 12) rfl) sz97 (by decide) ag97 rfl rfl (v := .agg [.int .i64 (at' r3 level), .int .i64 r2, .int .i64 r5]) rfl ?_)))))))
  refine wZ rg (o_bslice td28 ok97 zav97 (es := [.agg [.int .i64 (at' r3 level), .int .i64 r2, .int .i64 r5]]) rfl (kk := 3) rfl rfl rfl rfl rfl rfl (fun g5 => ?_))
  refine wZ rg (o_appR td28 bts97 ok97 zav97 (es := u2) (xs := [(⟨(at' r3 level), r2, r5⟩ : GDNode)]) (enc := eDNode) (atX hne0 hdx 0 rfl) (by first | rfl | omega | (simp only [go_sem] <;> omega)) (view_rowE (atL (k := 83) rfl) (by first | rfl | omega | (simp only [go_sem] <;> omega))) (kk := 3) rfl rfl (fun _ => rfl) (fun _ => rfl) h.1 rfl (fun _ => (setX hne0 hdx 0 rfl rfl)) (fun g6 => ?_))
  replace h := h.2
  refine wZ rg (o_faP td30 rfl rfl (by rw [sz28]; decide) rfl (wZ rg (o_storeB (atL (k := 4) rfl) sz28 (by decide) rfl (w := .sl 3 q0 k0 g6 0 ((u2 ++ [(⟨(at' r3 level), r2, r5⟩ : GDNode)]).length)) rfl rfl rfl (v := .agg [eL (AV.int .i64) r3, .sl 3 q0 k0 g6 0 ((u2 ++ [(⟨(at' r3 level), r2, r5⟩ : GDNode)]).length), .int .i64 r4]) rfl setL (nZ (qZ ?_)))))
  have hg3 := h.1
  replace h := h.2
  refine Vc.drawn' mixed rg (fun _ => jcr2) (by kernel_rfl) ?_
  refine dL (E := ([(rg, 4)], [])) rfl rfl (by simp) (cfn) (o_loadBA (atL (k := 4) rfl) sz30 (by decide) ag30 rfl rfl (v := .agg [eL (AV.int .i64) r3, .sl 3 q0 k0 g6 0 ((u2 ++ [(⟨(at' r3 level), r2, r5⟩ : GDNode)]).length), .int .i64 r4]) rfl (dP rfl rfl (o_faP td30 rfl rfl (by rw [sz28]; decide) rfl ?_)))
  refine dL (E := ([(rg, 4)], [])) rfl rfl (by simp) (cfa (by simp [apartE]) (cfn)) (o_loadB1 (atL (k := 4) rfl) sz28 ag28 rfl rfl (v := .sl 3 q0 k0 g6 0 ((u2 ++ [(⟨(at' r3 level), r2, r5⟩ : GDNode)]).length)) rfl (dP rfl rfl (o_lenR td28 rfl (dP rfl rfl (o_addG rfl rfl hg3 ?_)))))
  refine dL (E := ([], [(rg, 8)])) rfl rfl (by simp) (cfa (by simp [apartE]) (cfo (by kernel_rfl) (cfn))) (o_storeB (atL (k := 8) rfl) sz30 (by decide) rfl (w := .agg [eL (AV.int .i64) r3, .sl 3 q0 k0 g6 0 ((u2 ++ [(⟨(at' r3 level), r2, r5⟩ : GDNode)]).length), .int .i64 r4]) rfl rfl rfl (v := .agg [eL (AV.int .i64) r3, .sl 3 q0 k0 g6 0 ((u2 ++ [(⟨(at' r3 level), r2, r5⟩ : GDNode)]).length), .int .i64 r4]) rfl setL ?_)
  refine dP rfl rfl (o_assign (v := .int .i64 (1 + ((u2 ++ [(⟨(at' r3 level), r2, r5⟩ : GDNode)]).length : Int))) rfl (dN ?_))
  refine Vc.ret' ?_
  refine res_cellA (atL (k := 8) rfl) sz30 (by decide) ag30 rfl rfl (v := .agg [eL (AV.int .i64) r3, .sl 3 q0 k0 g6 0 ((u2 ++ [(⟨(at' r3 level), r2, r5⟩ : GDNode)]).length), .int .i64 r4]) rfl (res_tmp (v := .int .i64 (1 + ((u2 ++ [(⟨(at' r3 level), r2, r5⟩ : GDNode)]).length : Int))) rfl (res_nil ?_))
  show Gives _ (.tuple [.agg [eL (AV.int .i64) r3, .sl 3 q0 k0 g6 0 ((u2 ++ [(⟨(at' r3 level), r2, r5⟩ : GDNode)]).length), .int .i64 r4], .int .i64 (1 + ((u2 ++ [(⟨(at' r3 level), r2, r5⟩ : GDNode)]).length : Int))]) _
  exact gives_out (hfr _ rfl) (VW.tupL (vl' vr (vl' vr (vn)))) (hQ _ _ _ _ _ h)
theorem ref15_Of_ctr {table : List Bool} {o : List Int} {Q : GDiagram → Prop} {S : St} {R : AV → St → Prop} (h : ref15_Of_W table o Q) (hQ : ∀ r1, Q r1 → R (eDiagram r1) S) :
    Ctr Try.prog 98 [eL AV.bool table, eL (AV.int .i64) o] S R := by
  unfold ref15_Of_W at h
  refine enterT Try.func98 rfl Try.ntmps98 Try.results98 (by kernel_rfl) (fun rg hrg => ?_)
  refine qZ (rZ (wZ rg (o_alloc zav30 ok30 (kk := 3) rfl (fun g1 => (nZ (qZ (rZ (wZ rg (o_build td30 zav30 bok30 szs30 sz30 (ps := []) rfl rfl (v := .agg [.nil, .nil, .int .i64 0]) rfl (wZ rg (o_alloc zav30 ok30 (kk := 3) rfl (fun g2 => (wZ rg (o_storeB (atL (k := 5) rfl) sz30 (by decide) rfl (w := .agg [.nil, .nil, .int .i64 0]) rfl rfl rfl (v := .agg [.nil, .nil, .int .i64 0]) rfl setL (nZ ?_)))))))))))))))
  refine qZ (rZ (wZ rg (o_faP td30 rfl rfl (by rw [sz25]; decide) rfl (wZ rg (o_loadB1 (atL (k := 5) rfl) sz25 ag25 rfl rfl (v := .nil) rfl (mvZ (eL (AV.int .i64) o) rfl (wZ rg (o_appN td25 bts3 ok3 zav3 (xs := o) (enc := AV.int .i64) (rfl) (kk := 1) rfl rfl (fun _ => rfl) (fun _ => rfl) h.1 rfl (fun g3 => ?_)))))))))
  replace h := h.2
  refine wZ rg (o_faP td30 rfl rfl (by rw [sz25]; decide) rfl (wZ rg (o_storeB (atL (k := 5) rfl) sz25 (by decide) rfl (w := .sl 1 rg 10 g3 0 o.length) rfl rfl rfl (v := .agg [.sl 1 rg 10 g3 0 o.length, .nil, .int .i64 0]) rfl setL (nZ (qZ (rZ (wZ rg (o_loadBA (atL (k := 5) rfl) sz30 (by decide) ag30 rfl rfl (v := .agg [.sl 1 rg 10 g3 0 o.length, .nil, .int .i64 0]) rfl (mvZ (eL AV.bool table) rfl ?_)))))))))
  refine Wl.wk (canon_freezeB (k := 10) (xs := List.map (AV.int .i64) o) rfl (es := [(4, .ptr rg 4 g1 0 0), (5, .ptr rg 5 g2 0 0), (13, .agg [eL (AV.int .i64) o, .nil, .int .i64 0]), (14, eL AV.bool table)]) (fc vr (fc vr (fc (VW.aggL (vl' (frz_full rfl) (vl' vr (vl' vr (vn))))) (fc vr (fn))))) (m := [(4, .arr 3 [.agg [.nil, .nil, .int .i64 0]], g1), (5, .arr 3 [.agg [eL (AV.int .i64) o, .nil, .int .i64 0]], g2)]) (zc rfl (zb rfl (zl (frz_full rfl) (zl vr (zl vr (zln)))) (zn)))) ?_
  obtain ⟨_, h⟩ := h
  refine wZ rg (o_call (us := [.agg [eL (AV.int .i64) o, .nil, .int .i64 0], eL AV.bool table, AV.int .i64 0, AV.int .i64 0]) rfl (vl' vr (vl' vr (vl' vr (vl' vr (vn))))) (Ctr.matC 0 1 rg 4800000 3 rfl rfl (by decide) (fun g4 => ctrX ((sx_c (atL (k := 4800000) rfl) (sx_n)).trans setL.symm) (ref15_add__e_ctr (dk_c (ni_n) (dk_n)) h fun u r r1 r2 g5 h => ?_))))
  refine Wl.eqS (sy_c (sx_n) setL) ?_
  refine mvZ (.tuple [.agg [eL (AV.int .i64) r, .sl 3 rg 4800000 g5 0 u.length, .int .i64 r1], .int .i64 r2]) rfl (wZ rg (o_extract (v := .agg [eL (AV.int .i64) r, .sl 3 rg 4800000 g5 0 u.length, .int .i64 r1]) rfl rfl rfl (wZ rg (o_extract (v := .int .i64 r2) rfl rfl rfl ?_))))
  refine wZ rg (o_storeB (atL (k := 5) rfl) sz30 (by decide) rfl (w := .agg [eL (AV.int .i64) r, .sl 3 rg 4800000 g5 0 u.length, .int .i64 r1]) rfl rfl rfl (v := .agg [eL (AV.int .i64) r, .sl 3 rg 4800000 g5 0 u.length, .int .i64 r1]) rfl setL (wZ rg (o_faP td30 rfl rfl (by rw [sz3]; decide) rfl ?_)))
  refine wZ rg (o_storeB (atL (k := 5) rfl) sz3 (by decide) rfl (w := .int .i64 r2) rfl rfl rfl (v := .agg [eL (AV.int .i64) r, .sl 3 rg 4800000 g5 0 u.length, .int .i64 r2]) rfl setL (nZ (qZ (rZ (wZ rg (o_loadBA (atL (k := 5) rfl) sz30 (by decide) ag30 rfl rfl (v := .agg [eL (AV.int .i64) r, .sl 3 rg 4800000 g5 0 u.length, .int .i64 r2]) rfl ?_))))))
  refine wZ rg (o_storeB (atL (k := 4) rfl) sz30 (by decide) rfl (w := .agg [eL (AV.int .i64) r, .sl 3 rg 4800000 g5 0 u.length, .int .i64 r2]) rfl rfl rfl (v := .agg [eL (AV.int .i64) r, .sl 3 rg 4800000 g5 0 u.length, .int .i64 r2]) rfl setL (nZ ?_))
  refine Vc.ret' ?_
  refine res_cellA (atL (k := 4) rfl) sz30 (by decide) ag30 rfl rfl (v := .agg [eL (AV.int .i64) r, .sl 3 rg 4800000 g5 0 u.length, .int .i64 r2]) rfl (res_nil ?_)
  show Gives _ (.agg [eL (AV.int .i64) r, .sl 3 rg 4800000 g5 0 u.length, .int .i64 r2]) _
  refine gives_freeze (k := 4800000) (xs := List.map eDNode u) rfl (v' := .agg [eL (AV.int .i64) r, eL eDNode u, .int .i64 r2]) (VW.aggL (vl' vr (vl' (frz_full rfl) (vl' vr (vn))))) ?_
  exact gives_out hrg (VW.refl _) (hQ _ h)
theorem ref15_Formula_ctr {f : GFormula} {Q : List Bool → Prop} {S : St} {R : AV → St → Prop} (h : ref15_Formula_W f Q) (hQ : ∀ r1, Q r1 → R (eL AV.bool r1) S) :
    Ctr Try.prog 130 [eFormula f] S R := by
  unfold ref15_Formula_W at h
  refine enterT Try.func130 rfl Try.ntmps130 Try.results130 (by kernel_rfl) (fun rg hrg => ?_)
  refine qZ (rZ (wZ rg (o_box (v := eFormula f) rfl rfl (kk := 3) rfl (by decide) (fun g1 => (asZ .nil rfl (nZ (qZ (rZ (asZ .nil rfl (nZ (qZ (qZ (rZ (asZ (.int .i64 0) rfl (nZ ?_)))))))))))))))
  refine Vc.blk ?_
  refine Vc.mat 3 17 1 rfl (by decide) (fun g2 => ?_)
  obtain ⟨I, μ, h0, hI⟩ := h
  refine Vc.loop' (σ := ((Int × (List Bool)) × (Nat))) (fun y => I y.1) (fun y => μ y.1) (fun y => envOf [(1, .ptr rg 1 g1 0 0), (3, .sl 1 rg 17 y.2 0 y.1.2.length), (4, .int .i64 y.1.1)]) (fun y => stL S rg [(1, .arr 3 [eFormula f], g1), (17, .arr 1 (List.map AV.bool y.1.2), y.2)]) ((0, []), g2) (canon (fc vr (fc (VW.slen (by first | rfl | omega | (simp only [go_sem] <;> omega))) (fc vr (fn)))) (sc rfl (sc rfl (sn)))) h0 (fun y h => ?_)
  obtain ⟨⟨s, out⟩, g3⟩ := y
  replace h := hI (s, out) h
  show Vc _ _ _ _ (envOf [(1, .ptr rg 1 g1 0 0), (3, .sl 1 rg 17 g3 0 out.length), (4, .int .i64 s)]) (stL S rg [(1, .arr 3 [eFormula f], g1), (17, .arr 1 (List.map AV.bool out), g3)])
  refine qZ (qZ (rZ (mvZ (.int .i64 s) rfl (wZ rg (o_faP td24 rfl rfl (by rw [sz3]; decide) rfl (wZ rg (o_loadB1 (atL (k := 1) rfl) sz3 ag3 rfl rfl (v := .int .i64 f.Vars) rfl (wZ rg (o_shlG rfl rfl h.1 ?_)))))))))
  replace h := h.2
  refine wZ rg (o_lss rfl rfl (nZ ?_))
  refine Vc.cond' rfl (fun hb => ?_) (fun hb => ?_)
  · replace h := h.1 hb
    refine Vc.skip' ?_
    refine qZ ?_
    refine Vc.blk ?_
    refine rZ ?_
    refine mvZ (.sl 1 rg 17 g3 0 out.length) rfl (wZ rg (o_loadBA (atL (k := 1) rfl) sz24 (by decide) ag24 rfl rfl (v := eFormula f) rfl (mvZ (.int .i64 s) rfl (wZ rg (o_call (us := [eFormula f, AV.int .i64 s]) rfl (vl' vr (vl' vr (vn))) (ref08_Value_ctr h fun r h => (wZ rg (o_bslice td110 ok4 zav4 (es := [.bool r]) rfl (kk := 1) rfl rfl rfl rfl rfl rfl (fun g4 => ?_)))))))))
    refine wZ rg (o_appR td110 bts4 ok4 zav4 (es := out) (xs := [r]) (enc := AV.bool) (atL (k := 17) rfl) (by first | rfl | omega | (simp only [go_sem] <;> omega)) (view_rowE (atL (k := 16) rfl) (by first | rfl | omega | (simp only [go_sem] <;> omega))) (kk := 1) rfl rfl (fun _ => rfl) (fun _ => rfl) h.1 rfl (fun _ => setL) (fun g5 => ?_))
    replace h := h.2
    refine asZ (.sl 1 rg 17 g5 0 ((out ++ [r]).length)) rfl (nZ (rZ (mvZ (.int .i64 s) rfl (wZ rg (o_addG rfl rfl h.1 ?_)))))
    replace h := h.2
    refine asZ (.int .i64 (s + 1)) rfl (nZ ?_)
    exact ⟨(((s + 1), (out ++ [r])), g5), (canon (fc vr (fc vr (fc vr (fn)))) (sc rfl (sc rfl (sn)))), h⟩
  replace h := h.2 hb
  refine Vc.exit' (exB_self ?_)
  refine qZ (rZ (mvZ (.sl 1 rg 17 g3 0 out.length) rfl (asZ (.sl 1 rg 17 g3 0 out.length) rfl (nZ ?_))))
  refine Vc.ret' ?_
  refine res_tmp (v := .sl 1 rg 17 g3 0 out.length) rfl (res_nil ?_)
  show Gives _ (.sl 1 rg 17 g3 0 out.length) _
  refine gives_freeze (k := 17) (xs := List.map AV.bool out) rfl (v' := eL AV.bool out) (frz_full rfl) ?_
  exact gives_out hrg (VW.refl _) (hQ _ h)
theorem ref15_Build_ctr {f : GFormula} {o : List Int} {Q : GDiagram → Prop} {S : St} {R : AV → St → Prop} (h : ref15_Build_W f o Q) (hQ : ∀ r1, Q r1 → R (eDiagram r1) S) :
    Ctr Try.prog 86 [eFormula f, eL (AV.int .i64) o] S R := by
  unfold ref15_Build_W at h
  refine enterT Try.func86 rfl Try.ntmps86 Try.results86 (by kernel_rfl) (fun rg hrg => ?_)
  refine qZ (rZ (wZ rg (o_box (v := eFormula f) rfl rfl (kk := 3) rfl (by decide) (fun g1 => (wZ rg (o_alloc zav30 ok30 (kk := 3) rfl (fun g2 => (nZ (qZ (rZ (wZ rg (o_loadBA (atL (k := 2) rfl) sz24 (by decide) ag24 rfl rfl (v := eFormula f) rfl (wZ rg (o_call (us := [eFormula f]) rfl (vl' vr (vn)) (ref15_Formula_ctr h fun r h => (mvZ (eL (AV.int .i64) o) rfl ?_))))))))))))))))
  refine wZ rg (o_call (us := [eL AV.bool r, eL (AV.int .i64) o]) rfl (vl' vr (vl' vr (vn))) (ref15_Of_ctr h fun r1 h => (wZ rg (o_storeB (atL (k := 4) rfl) sz30 (by decide) rfl (w := eDiagram r1) rfl rfl rfl (v := eDiagram r1) rfl setL (nZ ?_)))))
  refine Vc.ret' ?_
  refine res_cellA (atL (k := 4) rfl) sz30 (by decide) ag30 rfl rfl (v := eDiagram r1) rfl (res_nil ?_)
  show Gives _ (eDiagram r1) _
  exact gives_out hrg (VW.refl _) (hQ _ h)
end Go.Proofs.Ytiamkdpljeemkaa
/- Walks of functions. Conditions: none. -/
namespace Go.Proofs.Ytiamkdpljeemkaa
open Go.Gg
set_option maxRecDepth 100000
theorem law17_example_ctr {Q : GFormula → Prop} {S : St} {R : AV → St → Prop} (h : law17_example_W Q) (hQ : ∀ r1, Q r1 → R (eFormula r1) S) :
    Ctr Try.prog 87 [] S R := by
  unfold law17_example_W at h
  refine enterT Try.func87 rfl Try.ntmps87 Try.results87 (by kernel_rfl) (fun rg hrg => ?_)
  refine qZ (rZ (wZ rg (o_alloc zav24 ok24 (kk := 3) rfl (fun g1 => (nZ (qZ (rZ (wZ rg (o_bslice td25 ok3 zav3 (es := [.int .i64 0, .int .i64 1]) rfl (kk := 1) rfl rfl rfl rfl rfl rfl (fun g2 => (wZ rg (o_build td105 zav105 bok105 szs105 sz105 (ps := [(0, .int .i64 2), (2, .sl 1 rg 1 g2 0 ([0, 1].length))]) rfl rfl (v := .agg [.int .i64 2, .int .i64 0, .sl 1 rg 1 g2 0 ([0, 1].length)]) rfl ?_))))))))))))
  refine wZ rg (o_bslice td25 ok3 zav3 (es := [.int .i64 2, .int .i64 3]) rfl (kk := 1) rfl rfl rfl rfl rfl rfl (fun g3 => (wZ rg (o_build td105 zav105 bok105 szs105 sz105 (ps := [(0, .int .i64 2), (2, .sl 1 rg 3 g3 0 ([2, 3].length))]) rfl rfl (v := .agg [.int .i64 2, .int .i64 0, .sl 1 rg 3 g3 0 ([2, 3].length)]) rfl ?_))))
  refine wZ rg (o_bslice td25 ok3 zav3 (es := [.int .i64 4, .int .i64 5]) rfl (kk := 1) rfl rfl rfl rfl rfl rfl (fun g4 => (wZ rg (o_build td105 zav105 bok105 szs105 sz105 (ps := [(0, .int .i64 3), (2, .sl 1 rg 5 g4 0 ([4, 5].length))]) rfl rfl (v := .agg [.int .i64 3, .int .i64 0, .sl 1 rg 5 g4 0 ([4, 5].length)]) rfl ?_))))
  refine Wl.wk (canon_freeze (k := 1) (xs := List.map (AV.int .i64) [0, 1]) rfl (es := [(0, .ptr rg 0 g1 0 0), (2, .agg [.int .i64 2, .int .i64 0, eL (AV.int .i64) [0, 1]]), (4, .agg [.int .i64 2, .int .i64 0, .sl 1 rg 3 g3 0 ([2, 3].length)]), (6, .agg [.int .i64 3, .int .i64 0, .sl 1 rg 5 g4 0 ([4, 5].length)])]) (fc vr (fc (VW.aggL (vl' vr (vl' vr (vl' (frz_full rfl) (vn))))) (fc (VW.aggL (vl' vr (vl' vr (vl' (frz_ne rfl) (vn))))) (fc (VW.aggL (vl' vr (vl' vr (vl' (frz_ne rfl) (vn))))) (fn))))) (m := [(0, .arr 3 [.agg [.int .i64 0, .nil, .int .i64 0]], g1), (3, .arr 1 (List.map (AV.int .i64) [2, 3]), g3), (5, .arr 1 (List.map (AV.int .i64) [4, 5]), g4)]) (sc rfl (sc rfl (sc rfl (sn))))) ?_
  refine Wl.wk (canon_freeze (k := 3) (xs := List.map (AV.int .i64) [2, 3]) rfl (es := [(0, .ptr rg 0 g1 0 0), (2, .agg [.int .i64 2, .int .i64 0, eL (AV.int .i64) [0, 1]]), (4, .agg [.int .i64 2, .int .i64 0, eL (AV.int .i64) [2, 3]]), (6, .agg [.int .i64 3, .int .i64 0, .sl 1 rg 5 g4 0 ([4, 5].length)])]) (fc vr (fc vr (fc (VW.aggL (vl' vr (vl' vr (vl' (frz_full rfl) (vn))))) (fc (VW.aggL (vl' vr (vl' vr (vl' (frz_ne rfl) (vn))))) (fn))))) (m := [(0, .arr 3 [.agg [.int .i64 0, .nil, .int .i64 0]], g1), (5, .arr 1 (List.map (AV.int .i64) [4, 5]), g4)]) (sc rfl (sc rfl (sn)))) ?_
  refine Wl.wk (canon_freeze (k := 5) (xs := List.map (AV.int .i64) [4, 5]) rfl (es := [(0, .ptr rg 0 g1 0 0), (2, .agg [.int .i64 2, .int .i64 0, eL (AV.int .i64) [0, 1]]), (4, .agg [.int .i64 2, .int .i64 0, eL (AV.int .i64) [2, 3]]), (6, .agg [.int .i64 3, .int .i64 0, eL (AV.int .i64) [4, 5]])]) (fc vr (fc vr (fc vr (fc (VW.aggL (vl' vr (vl' vr (vl' (frz_full rfl) (vn))))) (fn))))) (m := [(0, .arr 3 [.agg [.int .i64 0, .nil, .int .i64 0]], g1)]) (sc rfl (sn))) ?_
  refine wZ rg (o_bslice td22 ok105 zav105 (es := [.agg [.int .i64 2, .int .i64 0, eL (AV.int .i64) [0, 1]], .agg [.int .i64 2, .int .i64 0, eL (AV.int .i64) [2, 3]], .agg [.int .i64 3, .int .i64 0, eL (AV.int .i64) [4, 5]]]) rfl (kk := 3) rfl rfl rfl rfl rfl rfl (fun g8 => ?_))
  refine wZ rg (o_build td24 zav24 bok24 szs24 sz24 (ps := [(0, .int .i64 4), (1, .sl 3 rg 7 g8 0 ([(⟨2, 0, [0, 1]⟩ : GNode), (⟨2, 0, [2, 3]⟩ : GNode), (⟨3, 0, [4, 5]⟩ : GNode)].length)), (2, .int .i64 6)]) rfl rfl (v := .agg [.int .i64 4, .sl 3 rg 7 g8 0 ([(⟨2, 0, [0, 1]⟩ : GNode), (⟨2, 0, [2, 3]⟩ : GNode), (⟨3, 0, [4, 5]⟩ : GNode)].length), .int .i64 6]) rfl ?_)
  refine wZ rg (o_storeB (atL (k := 0) rfl) sz24 (by decide) rfl (w := .agg [.int .i64 4, .sl 3 rg 7 g8 0 ([(⟨2, 0, [0, 1]⟩ : GNode), (⟨2, 0, [2, 3]⟩ : GNode), (⟨3, 0, [4, 5]⟩ : GNode)].length), .int .i64 6]) rfl rfl rfl (v := .agg [.int .i64 4, .sl 3 rg 7 g8 0 ([(⟨2, 0, [0, 1]⟩ : GNode), (⟨2, 0, [2, 3]⟩ : GNode), (⟨3, 0, [4, 5]⟩ : GNode)].length), .int .i64 6]) rfl setL (nZ ?_))
  refine Vc.ret' ?_
  refine res_cellA (atL (k := 0) rfl) sz24 (by decide) ag24 rfl rfl (v := .agg [.int .i64 4, .sl 3 rg 7 g8 0 ([(⟨2, 0, [0, 1]⟩ : GNode), (⟨2, 0, [2, 3]⟩ : GNode), (⟨3, 0, [4, 5]⟩ : GNode)].length), .int .i64 6]) rfl (res_nil ?_)
  show Gives _ (.agg [.int .i64 4, .sl 3 rg 7 g8 0 ([(⟨2, 0, [0, 1]⟩ : GNode), (⟨2, 0, [2, 3]⟩ : GNode), (⟨3, 0, [4, 5]⟩ : GNode)].length), .int .i64 6]) _
  refine gives_freeze (k := 7) (xs := List.map eNode [(⟨2, 0, [0, 1]⟩ : GNode), (⟨2, 0, [2, 3]⟩ : GNode), (⟨3, 0, [4, 5]⟩ : GNode)]) rfl (v' := .agg [.int .i64 4, eL eNode [(⟨2, 0, [0, 1]⟩ : GNode), (⟨2, 0, [2, 3]⟩ : GNode), (⟨3, 0, [4, 5]⟩ : GNode)], .int .i64 6]) (VW.aggL (vl' vr (vl' (frz_full rfl) (vl' vr (vn))))) ?_
  exact gives_out hrg (VW.refl _) (hQ _ h)
theorem law17_awake_ctr {Q : Bool → Prop} {S : St} {R : AV → St → Prop} (h : law17_awake_W Q) (hQ : ∀ r1, Q r1 → R (AV.bool r1) S) :
    Ctr Try.prog 34 [] S R := by
  unfold law17_awake_W at h
  refine enterT Try.func34 rfl Try.ntmps34 Try.results34 (by kernel_rfl) (fun rg hrg => ?_)
  refine qZ (rZ (asZ (.bool false) rfl (nZ (qZ (rZ (wZ rg (o_call (us := []) rfl (vn) (law17_example_ctr h fun r h => (wZ rg (o_bslice td25 ok3 zav3 (es := [.int .i64 0, .int .i64 2, .int .i64 1, .int .i64 3]) rfl (kk := 1) rfl rfl rfl rfl rfl rfl (fun g1 => ?_)))))))))))
  refine Wl.wk (canon_freeze (k := 7) (xs := List.map (AV.int .i64) [0, 2, 1, 3]) rfl (es := [(6, eFormula r), (7, eL (AV.int .i64) [0, 2, 1, 3])]) (fc vr (fc (frz_full rfl) (fn))) (m := []) (sn)) ?_
  refine wZ rg (o_call (us := [eFormula r, eL (AV.int .i64) [0, 2, 1, 3]]) rfl (vl' vr (vl' vr (vn))) (ref15_Build_ctr h fun r1 h => (wZ rg (o_alloc zav30 ok30 (kk := 3) rfl (fun g2 => (wZ rg (o_storeB (atL (k := 1) rfl) sz30 (by decide) rfl (w := eDiagram r1) rfl rfl rfl (v := eDiagram r1) rfl setL (nZ (qZ (rZ ?_))))))))))
  refine wZ rg (o_loadBA (atL (k := 1) rfl) sz30 (by decide) ag30 rfl rfl (v := eDiagram r1) rfl (wZ rg (o_call (us := [eDiagram r1]) rfl (vl' vr (vn)) (sifting_Sift_ctr h fun r2 r3 h => (mvZ (.tuple [eDiagram r2, eErr 73 r3]) rfl (wZ rg (o_extract (v := eDiagram r2) rfl rfl rfl (wZ rg (o_extract (v := eErr 73 r3) rfl rfl rfl (wZ rg (o_alloc zav30 ok30 (kk := 3) rfl (fun g3 => ?_))))))))))))
  refine wZ rg (o_storeB (atL (k := 2) rfl) sz30 (by decide) rfl (w := eDiagram r2) rfl rfl rfl (v := eDiagram r2) rfl setL (asZ (eErr 73 r3) rfl (nZ (qZ (rZ (wZ rg (o_loadBA (atL (k := 1) rfl) sz30 (by decide) ag30 rfl rfl (v := eDiagram r1) rfl (wZ rg (o_call (us := [eDiagram r1]) rfl (vl' vr (vn)) (sifting_Best_ctr h fun r4 r5 h => (mvZ (.tuple [eDiagram r4, eErr 73 r5]) rfl ?_)))))))))))
  refine wZ rg (o_extract (v := eDiagram r4) rfl rfl rfl (wZ rg (o_extract (v := eErr 73 r5) rfl rfl rfl (wZ rg (o_alloc zav30 ok30 (kk := 3) rfl (fun g4 => (wZ rg (o_storeB (atL (k := 4) rfl) sz30 (by decide) rfl (w := eDiagram r4) rfl rfl rfl (v := eDiagram r4) rfl setL (asZ (eErr 73 r5) rfl (nZ (qZ (rZ (mvZ (eErr 73 r3) rfl (wZ rg (o_isnil td32 (E := 73) rfl rfl rfl ?_)))))))))))))))
  refine mvZ (.bool (Option.isNone r3)) rfl ?_
  refine Wl.guard rfl rfl (fun hb => ?_) (fun hb => ?_)
  · replace h := h.1 hb
    refine mvZ (eErr 73 r5) rfl ?_
    refine Wl.guardT rfl rfl hb ?_
    refine wZ rg (o_isnil td32 (E := 73) rfl rfl rfl (wZ rg (o_pickT rfl hb (v := .bool (Option.isNone r5)) rfl (mvZ (.bool (Option.isNone r5)) rfl ?_))))
    refine Wl.guard rfl rfl (fun hb1 => ?_) (fun hb1 => ?_)
    · replace h := h.1 hb1
      refine wZ rg (o_faP td30 rfl rfl (by rw [sz28]; decide) rfl ?_)
      refine Wl.guardT rfl rfl hb1 ?_
      refine wZ rg (o_loadB1 (atL (k := 1) rfl) sz28 ag28 rfl rfl (v := eL eDNode r1.Nodes) rfl ?_)
      refine Wl.guardT rfl rfl hb1 ?_
      refine wZ rg (o_len td28 rfl ?_)
      refine Wl.guardT rfl rfl hb1 ?_
      refine wZ rg (o_eql rfl rfl (wZ rg (o_pickT rfl hb1 (v := .bool ((r1.Nodes.length : Int) == 6)) rfl (mvZ (.bool ((r1.Nodes.length : Int) == 6)) rfl ?_))))
      refine Wl.guard rfl rfl (fun hb2 => ?_) (fun hb2 => ?_)
      · replace h := h.1 hb2
        refine wZ rg (o_faP td30 rfl rfl (by rw [sz28]; decide) rfl ?_)
        refine Wl.guardT rfl rfl hb2 ?_
        refine wZ rg (o_loadB1 (atL (k := 2) rfl) sz28 ag28 rfl rfl (v := eL eDNode r2.Nodes) rfl ?_)
        refine Wl.guardT rfl rfl hb2 ?_
        refine wZ rg (o_len td28 rfl ?_)
        refine Wl.guardT rfl rfl hb2 ?_
        refine wZ rg (o_eql rfl rfl (wZ rg (o_pickT rfl hb2 (v := .bool ((r2.Nodes.length : Int) == 4)) rfl (mvZ (.bool ((r2.Nodes.length : Int) == 4)) rfl ?_))))
        refine Wl.guard rfl rfl (fun hb3 => ?_) (fun hb3 => ?_)
        · replace h := h.1 hb3
          refine wZ rg (o_faP td30 rfl rfl (by rw [sz28]; decide) rfl ?_)
          refine Wl.guardT rfl rfl hb3 ?_
          refine wZ rg (o_loadB1 (atL (k := 4) rfl) sz28 ag28 rfl rfl (v := eL eDNode r4.Nodes) rfl ?_)
          refine Wl.guardT rfl rfl hb3 ?_
          refine wZ rg (o_len td28 rfl ?_)
          refine Wl.guardT rfl rfl hb3 ?_
          refine wZ rg (o_eql rfl rfl (wZ rg (o_pickT rfl hb3 (v := .bool ((r4.Nodes.length : Int) == 4)) rfl (mvZ (.bool ((r4.Nodes.length : Int) == 4)) rfl ?_))))
          refine Wl.guard rfl rfl (fun hb4 => ?_) (fun hb4 => ?_)
          · replace h := h.1 hb4
            refine wZ rg (o_faP td30 rfl rfl (by rw [sz25]; decide) rfl ?_)
            refine Wl.guardT rfl rfl hb4 ?_
            refine wZ rg (o_loadB1 (atL (k := 4) rfl) sz25 ag25 rfl rfl (v := eL (AV.int .i64) r4.Order) rfl ?_)
            refine Wl.guardT rfl rfl hb4 ?_
            refine wZ rg (o_bslice td25 ok3 zav3 (es := [.int .i64 0, .int .i64 1, .int .i64 2, .int .i64 3]) rfl (kk := 1) rfl rfl rfl rfl rfl rfl (fun g5 => ?_))
            refine Wl.guardT rfl rfl hb4 ?_
            refine Wl.wk (canon_freeze (k := 46) (xs := List.map (AV.int .i64) [0, 1, 2, 3]) rfl (es := [(43, .bool ((r4.Nodes.length : Int) == 4)), (45, eL (AV.int .i64) r4.Order), (46, eL (AV.int .i64) [0, 1, 2, 3])]) (fc vr (fc vr (fc (frz_full rfl) (fn)))) (m := []) (sn)) ?_
            refine wZ rg (o_call (us := [eL (AV.int .i64) r4.Order, eL (AV.int .i64) [0, 1, 2, 3]]) rfl (vl' vr (vl' vr (vn))) (base_Ints_ctr h fun r6 h => (wZ rg (o_pickT rfl hb4 (v := .bool r6) rfl (asZ (.bool r6) rfl (nZ ?_))))))
            refine Vc.ret' ?_
            refine res_tmp (v := .bool r6) rfl (res_nil ?_)
            show Gives _ (.bool r6) _
            exact gives_out hrg (VW.refl _) (hQ _ h)
          replace h := h.2 hb4
          refine Wl.guardF rfl rfl hb4 rfl ?_
          refine Wl.guardF rfl rfl hb4 rfl ?_
          refine Wl.guardF rfl rfl hb4 rfl ?_
          refine wZ rg (o_pickF rfl hb4 (v := .bool false) rfl (asZ (.bool false) rfl (nZ ?_)))
          refine Vc.ret' ?_
          refine res_tmp (v := .bool false) rfl (res_nil ?_)
          show Gives _ (.bool false) _
          exact gives_out hrg (VW.refl _) (hQ _ h)
        replace h := h.2 hb3
        refine Wl.guardF rfl rfl hb3 rfl ?_
        refine Wl.guardF rfl rfl hb3 rfl ?_
        refine Wl.guardF rfl rfl hb3 rfl ?_
        refine wZ rg (o_pickF rfl hb3 (v := .bool false) rfl (mvZ (.bool false) rfl ?_))
        refine Wl.guardF rfl rfl rfl rfl ?_
        refine Wl.guardF rfl rfl rfl rfl ?_
        refine Wl.guardF rfl rfl rfl rfl ?_
        refine Wl.guardF rfl rfl rfl rfl ?_
        refine wZ rg (o_pickF rfl rfl (v := .bool false) rfl (asZ (.bool false) rfl (nZ ?_)))
        refine Vc.ret' ?_
        refine res_tmp (v := .bool false) rfl (res_nil ?_)
        show Gives _ (.bool false) _
        exact gives_out hrg (VW.refl _) (hQ _ h)
      replace h := h.2 hb2
      refine Wl.guardF rfl rfl hb2 rfl ?_
      refine Wl.guardF rfl rfl hb2 rfl ?_
      refine Wl.guardF rfl rfl hb2 rfl ?_
      refine wZ rg (o_pickF rfl hb2 (v := .bool false) rfl (mvZ (.bool false) rfl ?_))
      refine Wl.guardF rfl rfl rfl rfl ?_
      refine Wl.guardF rfl rfl rfl rfl ?_
      refine Wl.guardF rfl rfl rfl rfl ?_
      refine Wl.guardF rfl rfl rfl rfl ?_
      refine wZ rg (o_pickF rfl rfl (v := .bool false) rfl (mvZ (.bool false) rfl ?_))
      refine Wl.guardF rfl rfl rfl rfl ?_
      refine Wl.guardF rfl rfl rfl rfl ?_
      refine Wl.guardF rfl rfl rfl rfl ?_
      refine Wl.guardF rfl rfl rfl rfl ?_
      refine wZ rg (o_pickF rfl rfl (v := .bool false) rfl (asZ (.bool false) rfl (nZ ?_)))
      refine Vc.ret' ?_
      refine res_tmp (v := .bool false) rfl (res_nil ?_)
      show Gives _ (.bool false) _
      exact gives_out hrg (VW.refl _) (hQ _ h)
    replace h := h.2 hb1
    refine Wl.guardF rfl rfl hb1 rfl ?_
    refine Wl.guardF rfl rfl hb1 rfl ?_
    refine Wl.guardF rfl rfl hb1 rfl ?_
    refine wZ rg (o_pickF rfl hb1 (v := .bool false) rfl (mvZ (.bool false) rfl ?_))
    refine Wl.guardF rfl rfl rfl rfl ?_
    refine Wl.guardF rfl rfl rfl rfl ?_
    refine Wl.guardF rfl rfl rfl rfl ?_
    refine Wl.guardF rfl rfl rfl rfl ?_
    refine wZ rg (o_pickF rfl rfl (v := .bool false) rfl (mvZ (.bool false) rfl ?_))
    refine Wl.guardF rfl rfl rfl rfl ?_
    refine Wl.guardF rfl rfl rfl rfl ?_
    refine Wl.guardF rfl rfl rfl rfl ?_
    refine Wl.guardF rfl rfl rfl rfl ?_
    refine wZ rg (o_pickF rfl rfl (v := .bool false) rfl (mvZ (.bool false) rfl ?_))
    refine Wl.guardF rfl rfl rfl rfl ?_
    refine Wl.guardF rfl rfl rfl rfl ?_
    refine Wl.guardF rfl rfl rfl rfl ?_
    refine Wl.guardF rfl rfl rfl rfl ?_
    refine wZ rg (o_pickF rfl rfl (v := .bool false) rfl (asZ (.bool false) rfl (nZ ?_)))
    refine Vc.ret' ?_
    refine res_tmp (v := .bool false) rfl (res_nil ?_)
    show Gives _ (.bool false) _
    exact gives_out hrg (VW.refl _) (hQ _ h)
  replace h := h.2 hb
  refine Wl.guardF rfl rfl hb rfl ?_
  refine wZ rg (o_pickF rfl hb (v := .bool false) rfl (mvZ (.bool false) rfl ?_))
  refine Wl.guardF rfl rfl rfl rfl ?_
  refine Wl.guardF rfl rfl rfl rfl ?_
  refine Wl.guardF rfl rfl rfl rfl ?_
  refine Wl.guardF rfl rfl rfl rfl ?_
  refine wZ rg (o_pickF rfl rfl (v := .bool false) rfl (mvZ (.bool false) rfl ?_))
  refine Wl.guardF rfl rfl rfl rfl ?_
  refine Wl.guardF rfl rfl rfl rfl ?_
  refine Wl.guardF rfl rfl rfl rfl ?_
  refine Wl.guardF rfl rfl rfl rfl ?_
  refine wZ rg (o_pickF rfl rfl (v := .bool false) rfl (mvZ (.bool false) rfl ?_))
  refine Wl.guardF rfl rfl rfl rfl ?_
  refine Wl.guardF rfl rfl rfl rfl ?_
  refine Wl.guardF rfl rfl rfl rfl ?_
  refine Wl.guardF rfl rfl rfl rfl ?_
  refine wZ rg (o_pickF rfl rfl (v := .bool false) rfl (mvZ (.bool false) rfl ?_))
  refine Wl.guardF rfl rfl rfl rfl ?_
  refine Wl.guardF rfl rfl rfl rfl ?_
  refine Wl.guardF rfl rfl rfl rfl ?_
  refine Wl.guardF rfl rfl rfl rfl ?_
  refine wZ rg (o_pickF rfl rfl (v := .bool false) rfl (asZ (.bool false) rfl (nZ ?_)))
  refine Vc.ret' ?_
  refine res_tmp (v := .bool false) rfl (res_nil ?_)
  show Gives _ (.bool false) _
  exact gives_out hrg (VW.refl _) (hQ _ h)
theorem law17_none_ctr {d : GDiagram} {e : Option Int} {code : Int} {Q : Bool → Prop} {S : St} {R : AV → St → Prop} (h : law17_none_W d e code Q) (hQ : ∀ r1, Q r1 → R (AV.bool r1) S) :
    Ctr Try.prog 38 [eDiagram d, eErr 73 e, AV.int .i64 code] S R := by
  unfold law17_none_W at h
  refine enterT Try.func38 rfl Try.ntmps38 Try.results38 (by kernel_rfl) (fun rg hrg => ?_)
  refine qZ (rZ (wZ rg (o_box (v := eDiagram d) rfl rfl (kk := 3) rfl (by decide) (fun g1 => (asZ (.bool false) rfl (nZ (qZ (rZ (wZ rg (o_loadBA (atL (k := 3) rfl) sz30 (by decide) ag30 rfl rfl (v := eDiagram d) rfl (wZ rg (o_build td30 zav30 bok30 szs30 sz30 (ps := []) rfl rfl (v := .agg [.nil, .nil, .int .i64 0]) rfl ?_))))))))))))
  refine wZ rg (o_call (us := [eDiagram d, eDiagram (⟨[], [], 0⟩ : GDiagram)]) rfl (vl' vr (vl' (VW.aggL (vl' (VW.nilL) (vl' (VW.nilL) (vl' vr (vn))))) (vn))) (base_Diagram_ctr h fun r h => (mvZ (.bool r) rfl ?_)))
  refine Wl.guard rfl rfl (fun hb => ?_) (fun hb => ?_)
  · replace h := h.1 hb
    refine mvZ (eErr 73 e) rfl ?_
    refine Wl.guardT rfl rfl hb ?_
    refine wZ rg (o_call (us := [eErr 73 e]) rfl (vl' vr (vn)) (base_Num_ctr h fun r1 h => ?_))
    refine Wl.guardT rfl rfl hb ?_
    refine mvZ (.int .i64 code) rfl ?_
    refine Wl.guardT rfl rfl hb ?_
    refine wZ rg (o_eql rfl rfl (wZ rg (o_pickT rfl hb (v := .bool (r1 == code)) rfl (asZ (.bool (r1 == code)) rfl (nZ ?_)))))
    refine Vc.ret' ?_
    refine res_tmp (v := .bool (r1 == code)) rfl (res_nil ?_)
    show Gives _ (.bool (r1 == code)) _
    exact gives_out hrg (VW.refl _) (hQ _ h)
  replace h := h.2 hb
  refine Wl.guardF rfl rfl hb rfl ?_
  refine Wl.guardF rfl rfl hb rfl ?_
  refine Wl.guardF rfl rfl hb rfl ?_
  refine wZ rg (o_pickF rfl hb (v := .bool false) rfl (asZ (.bool false) rfl (nZ ?_)))
  refine Vc.ret' ?_
  refine res_tmp (v := .bool false) rfl (res_nil ?_)
  show Gives _ (.bool false) _
  exact gives_out hrg (VW.refl _) (hQ _ h)
end Go.Proofs.Ytiamkdpljeemkaa
/- Walks of functions. Conditions: none. -/
namespace Go.Proofs.Ytiamkdpljeemkaa
open Go.Gg
set_option maxRecDepth 100000
theorem ref14_Check_ctr {o : List Int} {vars : Int} {Q : Int → Prop} {S : St} {R : AV → St → Prop} (h : ref14_Check_W o vars Q) (hQ : ∀ r1, Q r1 → R (AV.int .i64 r1) S) :
    Ctr Try.prog 43 [eL (AV.int .i64) o, AV.int .i64 vars] S R := by
  unfold ref14_Check_W at h
  refine enterT Try.func43 rfl Try.ntmps43 Try.results43 (by kernel_rfl) (fun rg hrg => ?_)
  refine qZ (rZ (asZ (.int .i64 0) rfl (nZ (qZ (qZ (rZ (mvZ (.int .i64 vars) rfl (wZ rg (o_lss rfl rfl (mvZ (.bool (decide (vars < 0))) rfl ?_))))))))))
  refine Wl.guard rfl rfl (fun hb => ?_) (fun hb => ?_)
  · replace h := h.2 hb
    refine mvZ (.int .i64 vars) rfl ?_
    refine Wl.guardT rfl rfl hb ?_
    refine wZ rg (o_gtr rfl rfl (wZ rg (o_pickF rfl hb (v := .bool (decide (24 < vars))) rfl (nZ ?_))))
    refine Vc.cond' rfl (fun hb1 => ?_) (fun hb1 => ?_)
    · replace h := h.1 hb1
      refine qZ (rZ (asZ (.int .i64 3) rfl (nZ ?_)))
      refine Vc.ret' ?_
      refine res_tmp (v := .int .i64 3) rfl (res_nil ?_)
      show Gives _ (.int .i64 3) _
      exact gives_out hrg (VW.refl _) (hQ _ h)
    replace h := h.2 hb1
    refine Vc.skip' ?_
    refine qZ (qZ (rZ (mvZ (eL (AV.int .i64) o) rfl (wZ rg (o_len td25 rfl (mvZ (.int .i64 vars) rfl (wZ rg (o_neq rfl rfl (nZ ?_)))))))))
    refine Vc.cond' rfl (fun hb2 => ?_) (fun hb2 => ?_)
    · replace h := h.1 hb2
      refine qZ (rZ (asZ (.int .i64 11) rfl (nZ ?_)))
      refine Vc.ret' ?_
      refine res_tmp (v := .int .i64 11) rfl (res_nil ?_)
      show Gives _ (.int .i64 11) _
      exact gives_out hrg (VW.refl _) (hQ _ h)
    replace h := h.2 hb2
    refine Vc.skip' ?_
    refine qZ (qZ (rZ (asZ (.int .i64 0) rfl (nZ ?_))))
    refine Vc.blk ?_
    obtain ⟨I, μ, h0, hI⟩ := h
    refine Vc.loop' (σ := (Int)) (fun y => I y) (fun y => μ y) (fun y => envOf [(0, eL (AV.int .i64) o), (1, .int .i64 vars), (5, .int .i64 y)]) (fun y => stL S rg []) 0 (canon (fc vr (fc vr (fc vr (fn)))) (sn)) h0 (fun i h => ?_)
    replace h := hI i h
    show Vc _ _ _ _ (envOf [(0, eL (AV.int .i64) o), (1, .int .i64 vars), (5, .int .i64 i)]) (stL S rg [])
    refine qZ (qZ (rZ (mvZ (.int .i64 i) rfl (mvZ (.int .i64 vars) rfl (wZ rg (o_lss rfl rfl (nZ ?_)))))))
    refine Vc.cond' rfl (fun hb3 => ?_) (fun hb3 => ?_)
    · replace h := h.1 hb3
      refine Vc.skip' ?_
      refine qZ ?_
      refine Vc.blk ?_
      refine qZ (qZ (rZ (mvZ (eL (AV.int .i64) o) rfl (mvZ (.int .i64 i) rfl (wZ rg (o_idxL td25 sz3 (by decide) (fun _ => rfl) rfl rfl h.1 ?_))))))
      replace h := h.2
      refine wZ rg (o_loadI1 sz3 ag3 rfl rfl (v := .int .i64 (at' o i)) rfl (wZ rg (o_lss rfl rfl (mvZ (.bool (decide ((at' o i) < 0))) rfl ?_))))
      refine Wl.guard rfl rfl (fun hb4 => ?_) (fun hb4 => ?_)
      · replace h := h.2 hb4
        refine mvZ (eL (AV.int .i64) o) rfl ?_
        refine Wl.guardT rfl rfl hb4 ?_
        refine mvZ (.int .i64 i) rfl ?_
        refine Wl.guardT rfl rfl hb4 ?_
        refine wZ rg (o_idxL td25 sz3 (by decide) (fun _ => rfl) rfl rfl h.1 ?_)
        replace h := h.2
        refine Wl.guardT rfl rfl hb4 ?_
        refine wZ rg (o_loadI1 sz3 ag3 rfl rfl (v := .int .i64 (at' o i)) rfl ?_)
        refine Wl.guardT rfl rfl hb4 ?_
        refine mvZ (.int .i64 vars) rfl ?_
        refine Wl.guardT rfl rfl hb4 ?_
        refine wZ rg (o_geq rfl rfl (wZ rg (o_pickF rfl hb4 (v := .bool (decide (vars ≤ (at' o i)))) rfl (nZ ?_))))
        refine Vc.cond' rfl (fun hb5 => ?_) (fun hb5 => ?_)
        · replace h := h.1 hb5
          refine qZ (rZ (asZ (.int .i64 3) rfl (nZ ?_)))
          refine Vc.ret' ?_
          refine res_tmp (v := .int .i64 3) rfl (res_nil ?_)
          show Gives _ (.int .i64 3) _
          exact gives_out hrg (VW.refl _) (hQ _ h)
        replace h := h.2 hb5
        refine Vc.skip' ?_
        refine qZ (rZ (asZ (.int .i64 0) rfl (nZ ?_)))
        refine Vc.blk ?_
        obtain ⟨I, μ, h0, hI⟩ := h
        refine Vc.loop' (σ := (Int)) (fun y => I y) (fun y => μ y) (fun y => envOf [(0, eL (AV.int .i64) o), (1, .int .i64 vars), (5, .int .i64 i), (6, .int .i64 y)]) (fun y => stL S rg []) 0 (canon (fc vr (fc vr (fc vr (fc vr (fn))))) (sn)) h0 (fun k1 h => ?_)
        replace h := hI k1 h
        show Vc _ _ _ _ (envOf [(0, eL (AV.int .i64) o), (1, .int .i64 vars), (5, .int .i64 i), (6, .int .i64 k1)]) (stL S rg [])
        refine qZ (qZ (rZ (mvZ (.int .i64 k1) rfl (mvZ (.int .i64 i) rfl (wZ rg (o_lss rfl rfl (nZ ?_)))))))
        refine Vc.cond' rfl (fun hb6 => ?_) (fun hb6 => ?_)
        · replace h := h.1 hb6
          refine Vc.skip' ?_
          refine qZ ?_
          refine Vc.blk ?_
          refine qZ ?_
          have hg := h.1
          replace h := h.2
          have hg1 := h.1
          replace h := h.2
          refine Vc.drawn' mixed rg (fun _ => jcr2) (by kernel_rfl) ?_
          refine dP rfl rfl (o_move (v := eL (AV.int .i64) o) rfl (dP rfl rfl (o_move (v := .int .i64 k1) rfl (dP rfl rfl (o_idxL td25 sz3 (by decide) (fun _ => rfl) rfl rfl hg (dP rfl rfl (o_loadI1 sz3 ag3 rfl rfl (v := .int .i64 (at' o k1)) rfl (dP rfl rfl (o_move (v := eL (AV.int .i64) o) rfl (dP rfl rfl (o_move (v := .int .i64 i) rfl ?_)))))))))))
          refine dP rfl rfl (o_idxL td25 sz3 (by decide) (fun _ => rfl) rfl rfl hg1 (dP rfl rfl (o_loadI1 sz3 ag3 rfl rfl (v := .int .i64 (at' o i)) rfl (dP rfl rfl (o_eql rfl rfl (dN ?_))))))
          refine Vc.cond' rfl (fun hb7 => ?_) (fun hb7 => ?_)
          · replace h := h.1 hb7
            refine qZ (rZ (asZ (.int .i64 6) rfl (nZ ?_)))
            refine Vc.ret' ?_
            refine res_tmp (v := .int .i64 6) rfl (res_nil ?_)
            show Gives _ (.int .i64 6) _
            exact gives_out hrg (VW.refl _) (hQ _ h)
          replace h := h.2 hb7
          refine Vc.skip' ?_
          refine rZ ?_
          refine mvZ (.int .i64 k1) rfl (wZ rg (o_addG rfl rfl h.1 ?_))
          replace h := h.2
          refine asZ (.int .i64 (k1 + 1)) rfl (nZ ?_)
          exact ⟨(k1 + 1), (canon (fc vr (fc vr (fc vr (fc vr (fn))))) (sn)), h⟩
        replace h := h.2 hb6
        refine Vc.exit' (exB_self ?_)
        refine rZ ?_
        refine mvZ (.int .i64 i) rfl (wZ rg (o_addG rfl rfl h.1 ?_))
        replace h := h.2
        refine asZ (.int .i64 (i + 1)) rfl (nZ ?_)
        exact ⟨(i + 1), (canon (fc vr (fc vr (fc vr (fn)))) (sn)), h⟩
      replace h := h.1 hb4
      refine Wl.guardF rfl rfl hb4 rfl ?_
      refine Wl.guardF rfl rfl hb4 rfl ?_
      refine Wl.guardF rfl rfl hb4 rfl ?_
      refine Wl.guardF rfl rfl hb4 rfl ?_
      refine Wl.guardF rfl rfl hb4 rfl ?_
      refine wZ rg (o_pickT rfl hb4 (v := .bool true) rfl (nZ ?_))
      refine Vc.cond' rfl (fun _ => ?_) (fun hb => Bool.noConfusion hb)
      refine qZ (rZ (asZ (.int .i64 3) rfl (nZ ?_)))
      refine Vc.ret' ?_
      refine res_tmp (v := .int .i64 3) rfl (res_nil ?_)
      show Gives _ (.int .i64 3) _
      exact gives_out hrg (VW.refl _) (hQ _ h)
    replace h := h.2 hb3
    refine Vc.exit' (exB_self ?_)
    refine qZ (rZ (asZ (.int .i64 0) rfl (nZ ?_)))
    refine Vc.ret' ?_
    refine res_tmp (v := .int .i64 0) rfl (res_nil ?_)
    show Gives _ (.int .i64 0) _
    exact gives_out hrg (VW.refl _) (hQ _ h)
  replace h := h.1 hb
  refine Wl.guardF rfl rfl hb rfl ?_
  refine wZ rg (o_pickT rfl hb (v := .bool true) rfl (nZ ?_))
  refine Vc.cond' rfl (fun _ => ?_) (fun hb => Bool.noConfusion hb)
  refine qZ (rZ (asZ (.int .i64 3) rfl (nZ ?_)))
  refine Vc.ret' ?_
  refine res_tmp (v := .int .i64 3) rfl (res_nil ?_)
  show Gives _ (.int .i64 3) _
  exact gives_out hrg (VW.refl _) (hQ _ h)
end Go.Proofs.Ytiamkdpljeemkaa
