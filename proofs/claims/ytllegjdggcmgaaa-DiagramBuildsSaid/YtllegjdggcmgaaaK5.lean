/- Walks of functions. Conditions: none. -/
import Derived.Test.YtllegjdggcmgaaaWa
import Derived.Test.YtllegjdggcmgaaaGgTy
import Derived.Test.YtllegjdggcmgaaaGd
/- Walks of functions. Conditions: none. -/
namespace Go.Proofs.Ytllegjdggcmgaaa
open Go.Gg
set_option maxRecDepth 100000
theorem ref08_Of_ctr {f : GFormula} {values : List Bool} {failed : Int} {arg : Int} {Q : Bool → Prop} {S : St} {R : AV → St → Prop} (h : ref08_Of_W f values failed arg Q) (hQ : ∀ r1, Q r1 → R (AV.bool r1) S) :
    Ctr Try.prog 220 [eFormula f, eL AV.bool values, AV.int .i64 failed, AV.int .i64 arg] S R := by
  unfold ref08_Of_W at h
  refine enterT Try.func220 rfl Try.ntmps220 Try.results220 (by kernel_rfl) (fun rg hrg => ?_)
  refine qZ (rZ (wZ rg (o_box (v := eFormula f) rfl rfl (kk := 3) rfl (by decide) (fun g1 => (asZ (.bool false) rfl (nZ (qZ (qZ (rZ (mvZ (.int .i64 arg) rfl (wZ rg (o_faP td68 rfl rfl (by rw [sz3]; decide) rfl (wZ rg (o_loadB1 (atL (k := 4) rfl) sz3 ag3 rfl rfl (v := .int .i64 f.Vars) rfl (wZ rg (o_lss rfl rfl (nZ ?_)))))))))))))))))
  refine Vc.cond' rfl (fun hb => ?_) (fun hb => ?_)
  · replace h := h.1 hb
    refine qZ (rZ (mvZ (.int .i64 failed) rfl (mvZ (.int .i64 arg) rfl (wZ rg (o_shr rfl rfl h.1 ?_)))))
    replace h := h.2
    refine wZ rg (o_and rfl rfl (wZ rg (o_eql rfl rfl (asZ (.bool ((bits .and .i64 (failed / 2 ^ (Int.toNat arg)) 1) == 1)) rfl (nZ ?_)))))
    refine Vc.ret' ?_
    refine res_tmp (v := .bool ((bits .and .i64 (failed / 2 ^ (Int.toNat arg)) 1) == 1)) rfl (res_nil ?_)
    show Gives _ (.bool ((bits .and .i64 (failed / 2 ^ (Int.toNat arg)) 1) == 1)) _
    exact gives_out hrg (VW.refl _) (hQ _ h)
  replace h := h.2 hb
  refine Vc.skip' ?_
  refine qZ (rZ (mvZ (eL AV.bool values) rfl (mvZ (.int .i64 arg) rfl (wZ rg (o_faP td68 rfl rfl (by rw [sz3]; decide) rfl (wZ rg (o_loadB1 (atL (k := 4) rfl) sz3 ag3 rfl rfl (v := .int .i64 f.Vars) rfl (wZ rg (o_subG rfl rfl h.1 ?_)))))))))
  replace h := h.2
  refine wZ rg (o_idxL td139 sz4 (by decide) (fun _ => rfl) rfl rfl h.1 ?_)
  replace h := h.2
  refine wZ rg (o_loadI1 sz4 ag4 rfl rfl (v := .bool (at' values (arg - f.Vars))) rfl (asZ (.bool (at' values (arg - f.Vars))) rfl (nZ ?_)))
  refine Vc.ret' ?_
  refine res_tmp (v := .bool (at' values (arg - f.Vars))) rfl (res_nil ?_)
  show Gives _ (.bool (at' values (arg - f.Vars))) _
  exact gives_out hrg (VW.refl _) (hQ _ h)
theorem ref08_Of__r1_ctr {f : GFormula} {values : List Bool} {valueso : Nat} {valuesl : Nat} {failed : Int} {arg : Int} {q0 k0 g0 : Nat} {Q : List Bool → Bool → Prop} {S : St} {R : AV → St → Prop} (h : ref08_Of__r1_W f values valueso valuesl failed arg Q) (hQ : ∀ r1 r2, Q r1 r2 → R (AV.bool r2) (stX S [(q0, k0, .arr 1 (List.map AV.bool r1), g0)])) :
    Ctr Try.prog 220 [eFormula f, .sl 1 q0 k0 g0 valueso valuesl, AV.int .i64 failed, AV.int .i64 arg] (stX S [(q0, k0, .arr 1 (List.map AV.bool values), g0)]) R := by
  unfold ref08_Of__r1_W at h
  refine enterT Try.func220 rfl Try.ntmps220 Try.results220 (by kernel_rfl) (fun rg hrg => ?_)
  have hdx : DX [(q0, k0, .arr 1 (List.map AV.bool values), g0)] := dx1
  have hfr := fun X' e => fresh_set (S := S) (rg := rg) (X := [(q0, k0, .arr 1 (List.map AV.bool values), g0)]) (X' := X') e hrg
  have hne0 := fresh_ne hdx hrg 0 rfl
  refine qZ (rZ (wZ rg (o_box (v := eFormula f) rfl rfl (kk := 3) rfl (by decide) (fun g1 => (asZ (.bool false) rfl (nZ (qZ (qZ (rZ (mvZ (.int .i64 arg) rfl (wZ rg (o_faP td68 rfl rfl (by rw [sz3]; decide) rfl (wZ rg (o_loadB1 (atL (k := 4) rfl) sz3 ag3 rfl rfl (v := .int .i64 f.Vars) rfl (wZ rg (o_lss rfl rfl (nZ ?_)))))))))))))))))
  refine Vc.cond' rfl (fun hb => ?_) (fun hb => ?_)
  · replace h := h.1 hb
    refine qZ (rZ (mvZ (.int .i64 failed) rfl (mvZ (.int .i64 arg) rfl (wZ rg (o_shr rfl rfl h.1 ?_)))))
    replace h := h.2
    refine wZ rg (o_and rfl rfl (wZ rg (o_eql rfl rfl (asZ (.bool ((bits .and .i64 (failed / 2 ^ (Int.toNat arg)) 1) == 1)) rfl (nZ ?_)))))
    refine Vc.ret' ?_
    refine res_tmp (v := .bool ((bits .and .i64 (failed / 2 ^ (Int.toNat arg)) 1) == 1)) rfl (res_nil ?_)
    show Gives _ (.bool ((bits .and .i64 (failed / 2 ^ (Int.toNat arg)) 1) == 1)) _
    exact gives_out (hfr _ rfl) (VW.refl _) (hQ _ _ h)
  replace h := h.2 hb
  refine Vc.skip' ?_
  refine qZ (rZ (mvZ (.sl 1 q0 k0 g0 valueso valuesl) rfl (mvZ (.int .i64 arg) rfl (wZ rg (o_faP td68 rfl rfl (by rw [sz3]; decide) rfl (wZ rg (o_loadB1 (atL (k := 4) rfl) sz3 ag3 rfl rfl (v := .int .i64 f.Vars) rfl (wZ rg (o_subG rfl rfl h.1 ?_)))))))))
  replace h := h.2
  refine wZ rg (o_idxRO td139 sz4 (by decide) rfl rfl h.1 ?_)
  have hi := h.1
  replace h := h.2
  refine wZ rg (o_loadR1 (atX hne0 hdx 0 rfl) sz4 ag4 rfl (h.1) rfl (v := .bool (at' values ((valueso : Int) + (arg - f.Vars)))) rfl ?_)
  replace h := h.2
  refine asZ (.bool (at' values ((valueso : Int) + (arg - f.Vars)))) rfl (nZ ?_)
  refine Vc.ret' ?_
  refine res_tmp (v := .bool (at' values ((valueso : Int) + (arg - f.Vars)))) rfl (res_nil ?_)
  show Gives _ (.bool (at' values ((valueso : Int) + (arg - f.Vars)))) _
  exact gives_out (hfr _ rfl) (VW.refl _) (hQ _ _ h)
theorem ref08_Values_ctr {f : GFormula} {failed : Int} {Q : List Bool → Prop} {S : St} {R : AV → St → Prop} (h : ref08_Values_W f failed Q) (hQ : ∀ r1, Q r1 → R (eL AV.bool r1) S) :
    Ctr Try.prog 221 [eFormula f, AV.int .i64 failed] S R := by
  unfold ref08_Values_W at h
  refine enterT Try.func221 rfl Try.ntmps221 Try.results221 (by kernel_rfl) (fun rg hrg => ?_)
  refine qZ (rZ (wZ rg (o_box (v := eFormula f) rfl rfl (kk := 3) rfl (by decide) (fun g1 => (asZ .nil rfl (nZ (qZ (rZ (wZ rg (o_faP td68 rfl rfl (by rw [sz66]; decide) rfl (wZ rg (o_loadB1 (atL (k := 2) rfl) sz66 ag66 rfl rfl (v := eL eNode f.Nodes) rfl (wZ rg (o_len td66 rfl (wZ rg (o_make td139 bts4 ok4 (enc := AV.bool) (z' := false) zav4 (kk := 1) rfl rfl rfl h.1 (fun g2 => ?_)))))))))))))))))
  replace h := h.2
  refine asZ (.sl 1 rg 14 g2 0 (Int.toNat (f.Nodes.length : Int))) rfl (nZ (qZ (qZ (rZ (wZ rg (o_faP td68 rfl rfl (by rw [sz66]; decide) rfl (wZ rg (o_loadB1 (atL (k := 2) rfl) sz66 ag66 rfl rfl (v := eL eNode f.Nodes) rfl (wZ rg (o_len td66 rfl (mvZ (.int .i64 0) rfl (nZ ?_))))))))))))
  refine Vc.blk ?_
  obtain ⟨I, μ, h0, hI⟩ := h
  refine Vc.loop' (σ := (Int × (List Bool))) (fun y => I y) (fun y => μ y) (fun y => envOf [(1, .int .i64 failed), (2, .ptr rg 2 g1 0 0), (5, .sl 1 rg 14 g2 0 y.2.length), (16, eL eNode f.Nodes), (17, .int .i64 (f.Nodes.length : Int)), (18, .int .i64 y.1)]) (fun y => stL S rg [(2, .arr 3 [eFormula f], g1), (14, .arr 1 (List.map AV.bool y.2), g2)]) (0, (rep' (f.Nodes.length : Int) false)) (canon (fc vr (fc vr (fc (VW.slen (by first | rfl | omega | (simp only [go_sem] <;> omega))) (fc vr (fc vr (fc vr (fn))))))) (sc rfl (sc rfl (sn)))) h0 (fun y h => ?_)
  obtain ⟨x, values⟩ := y
  replace h := hI (x, values) h
  show Vc _ _ _ _ (envOf [(1, .int .i64 failed), (2, .ptr rg 2 g1 0 0), (5, .sl 1 rg 14 g2 0 values.length), (16, eL eNode f.Nodes), (17, .int .i64 (f.Nodes.length : Int)), (18, .int .i64 x)]) (stL S rg [(2, .arr 3 [eFormula f], g1), (14, .arr 1 (List.map AV.bool values), g2)])
  refine qZ (rZ (wZ rg (o_lss rfl rfl (nZ (qZ ?_)))))
  refine Vc.cond' rfl (fun hb => ?_) (fun hb => ?_)
  · replace h := h.1 hb
    refine Vc.skip' ?_
    refine qZ ?_
    refine Vc.blk ?_
    refine qZ (rZ (mvZ (.int .i64 x) rfl (wZ rg (o_idxL td66 sz154 (by decide) (fun _ => rfl) rfl rfl h.1 ?_))))
    replace h := h.2
    refine wZ rg (o_loadIA sz154 (by decide) ag154 rfl rfl (v := eNode (at' f.Nodes x)) rfl (wZ rg (o_alloc zav154 ok154 (kk := 3) rfl (fun g3 => (asZ (.int .i64 x) rfl (wZ rg (o_storeB (atL (k := 7) rfl) sz154 (by decide) rfl (w := eNode (at' f.Nodes x)) rfl rfl rfl (v := eNode (at' f.Nodes x)) rfl setL (nZ (qZ (rZ (asZ (.int .i64 0) rfl (nZ (qZ (qZ (rZ ?_)))))))))))))))
    refine wZ rg (o_faP td154 rfl rfl (by rw [sz22]; decide) rfl (wZ rg (o_loadB1 (atL (k := 7) rfl) sz22 ag22 rfl rfl (v := eL (AV.int .i64) ((at' f.Nodes x).Args)) rfl (wZ rg (o_len td22 rfl (mvZ (.int .i64 0) rfl (nZ ?_)))))))
    refine Vc.blk ?_
    obtain ⟨I, μ, h0, hI⟩ := h
    refine Vc.loop' (σ := (Int × Int × (List Bool))) (fun y => I y) (fun y => μ y) (fun y => envOf [(1, .int .i64 failed), (2, .ptr rg 2 g1 0 0), (5, .sl 1 rg 14 g2 0 y.2.2.length), (6, .int .i64 x), (7, .ptr rg 7 g3 0 0), (8, .int .i64 y.1), (16, eL eNode f.Nodes), (17, .int .i64 (f.Nodes.length : Int)), (18, .int .i64 x), (24, eL (AV.int .i64) ((at' f.Nodes x).Args)), (25, .int .i64 (((at' f.Nodes x).Args).length : Int)), (26, .int .i64 y.2.1)]) (fun y => stL S rg [(2, .arr 3 [eFormula f], g1), (7, .arr 3 [eNode (at' f.Nodes x)], g3), (14, .arr 1 (List.map AV.bool y.2.2), g2)]) (0, 0, values) (canon (fc vr (fc vr (fc vr (fc vr (fc vr (fc vr (fc vr (fc vr (fc vr (fc vr (fc vr (fc vr (fn))))))))))))) (sc rfl (sc rfl (sc rfl (sn))))) h0 (fun y h => ?_)
    obtain ⟨n, x1, values1⟩ := y
    replace h := hI (n, x1, values1) h
    show Vc _ _ _ _ (envOf [(1, .int .i64 failed), (2, .ptr rg 2 g1 0 0), (5, .sl 1 rg 14 g2 0 values1.length), (6, .int .i64 x), (7, .ptr rg 7 g3 0 0), (8, .int .i64 n), (16, eL eNode f.Nodes), (17, .int .i64 (f.Nodes.length : Int)), (18, .int .i64 x), (24, eL (AV.int .i64) ((at' f.Nodes x).Args)), (25, .int .i64 (((at' f.Nodes x).Args).length : Int)), (26, .int .i64 x1)]) (stL S rg [(2, .arr 3 [eFormula f], g1), (7, .arr 3 [eNode (at' f.Nodes x)], g3), (14, .arr 1 (List.map AV.bool values1), g2)])
    refine qZ (rZ (wZ rg (o_lss rfl rfl (nZ (qZ ?_)))))
    refine Vc.cond' rfl (fun hb1 => ?_) (fun hb1 => ?_)
    · replace h := h.1 hb1
      refine Vc.skip' ?_
      refine qZ ?_
      refine Vc.blk ?_
      refine qZ (rZ (wZ rg (o_idxL td22 sz3 (by decide) (fun _ => rfl) rfl rfl h.1 ?_)))
      replace h := h.2
      refine wZ rg (o_loadI1 sz3 ag3 rfl rfl (v := .int .i64 (at' ((at' f.Nodes x).Args) x1)) rfl (asZ (.int .i64 (at' ((at' f.Nodes x).Args) x1)) rfl (nZ (qZ (rZ (wZ rg (o_loadBA (atL (k := 2) rfl) sz68 (by decide) ag68 rfl rfl (v := eFormula f) rfl (mvZ (.sl 1 rg 14 g2 0 values1.length) rfl (mvZ (.int .i64 failed) rfl (mvZ (.int .i64 (at' ((at' f.Nodes x).Args) x1)) rfl ?_))))))))))
      refine wZ rg (o_call (us := [eFormula f, .sl 1 rg 14 g2 0 values1.length, AV.int .i64 failed, AV.int .i64 (at' ((at' f.Nodes x).Args) x1)]) rfl (vl' vr (vl' vr (vl' vr (vl' vr (vn))))) (ctrX (stX_same1 (atL (k := 14) rfl)) (ref08_Of__r1_ctr h fun values2 r h => ?_)))
      refine Wl.eqS setL ?_
      have hl := h.1
      replace h := h.2
      refine nZ ?_
      refine Vc.cond' rfl (fun hb2 => ?_) (fun hb2 => ?_)
      · replace h := h.1 hb2
        refine rZ ?_
        refine mvZ (.int .i64 n) rfl (wZ rg (o_addG rfl rfl h.1 ?_))
        replace h := h.2
        refine asZ (.int .i64 (n + 1)) rfl (nZ (rZ (wZ rg (o_addG rfl rfl h.1 ?_))))
        replace h := h.2
        refine mvZ (.int .i64 (x1 + 1)) rfl (nZ ?_)
        exact ⟨((n + 1), (x1 + 1), values2), (canon (fc vr (fc vr (fc (VW.slen (by first | rfl | omega | (simp only [go_sem] <;> omega))) (fc vr (fc vr (fc vr (fc vr (fc vr (fc vr (fc vr (fc vr (fc vr (fn))))))))))))) (sc rfl (sc rfl (sc rfl (sn))))), h⟩
      replace h := h.2 hb2
      refine Vc.skip' ?_
      refine rZ ?_
      refine wZ rg (o_addG rfl rfl h.1 ?_)
      replace h := h.2
      refine mvZ (.int .i64 (x1 + 1)) rfl (nZ ?_)
      exact ⟨(n, (x1 + 1), values2), (canon (fc vr (fc vr (fc (VW.slen (by first | rfl | omega | (simp only [go_sem] <;> omega))) (fc vr (fc vr (fc vr (fc vr (fc vr (fc vr (fc vr (fc vr (fc vr (fn))))))))))))) (sc rfl (sc rfl (sc rfl (sn))))), h⟩
    replace h := h.2 hb1
    refine Vc.exit' (exB_self ?_)
    refine qZ (rZ (wZ rg (o_faP td154 rfl rfl (by rw [sz3]; decide) rfl (wZ rg (o_loadB1 (atL (k := 7) rfl) sz3 ag3 rfl rfl (v := .int .i64 ((at' f.Nodes x).Kind)) rfl (nZ ?_))))))
    refine Vc.blk ?_
    refine qZ (rZ (wZ rg (o_eql rfl rfl (asZ (.bool ((at' f.Nodes x).Kind == 0)) rfl (nZ ?_)))))
    refine Vc.cond' rfl (fun hb3 => ?_) (fun hb3 => ?_)
    · replace h := h.1 hb3
      refine rZ ?_
      refine mvZ (.sl 1 rg 14 g2 0 values1.length) rfl (mvZ (.int .i64 x) rfl (wZ rg (o_faP td154 rfl rfl (by rw [sz3]; decide) rfl (wZ rg (o_loadB1 (atL (k := 7) rfl) sz3 ag3 rfl rfl (v := .int .i64 ((at' f.Nodes x).K)) rfl (wZ rg (o_eql rfl rfl (wZ rg (o_idxR0 td139 sz4 (by decide) rfl rfl h.1 ?_)))))))))
      have hi := h.1
      replace h := h.2
      refine wZ rg (o_storeR1 (atL (k := 14) rfl) sz4 (by decide) (x' := ((at' f.Nodes x).K == 1)) (fun _ => rfl) rfl rfl (lt_of hi (by first | rfl | omega | (simp only [go_sem] <;> omega))) rfl rfl setL (nZ (rZ (wZ rg (o_addG rfl rfl h.1 ?_)))))
      replace h := h.2
      refine mvZ (.int .i64 (x + 1)) rfl (nZ ?_)
      exact ⟨((x + 1), (set' values1 x ((at' f.Nodes x).K == 1))), (canon (fc vr (fc vr (fc (VW.slen (by first | rfl | omega | (simp only [go_sem] <;> omega))) (fc vr (fc vr (fc vr (fn))))))) (sc rfl (sc rfl (sn)))), h⟩
    replace h := h.2 hb3
    refine qZ (rZ (wZ rg (o_eql rfl rfl (asZ (.bool ((at' f.Nodes x).Kind == 1)) rfl (nZ ?_)))))
    refine Vc.cond' rfl (fun hb4 => ?_) (fun hb4 => ?_)
    · replace h := h.1 hb4
      refine rZ ?_
      refine mvZ (.sl 1 rg 14 g2 0 values1.length) rfl (mvZ (.int .i64 x) rfl (mvZ (.int .i64 n) rfl (wZ rg (o_eql rfl rfl (wZ rg (o_idxR0 td139 sz4 (by decide) rfl rfl h.1 ?_))))))
      have hi1 := h.1
      replace h := h.2
      refine wZ rg (o_storeR1 (atL (k := 14) rfl) sz4 (by decide) (x' := (n == 0)) (fun _ => rfl) rfl rfl (lt_of hi1 (by first | rfl | omega | (simp only [go_sem] <;> omega))) rfl rfl setL (nZ (rZ (wZ rg (o_addG rfl rfl h.1 ?_)))))
      replace h := h.2
      refine mvZ (.int .i64 (x + 1)) rfl (nZ ?_)
      exact ⟨((x + 1), (set' values1 x (n == 0))), (canon (fc vr (fc vr (fc (VW.slen (by first | rfl | omega | (simp only [go_sem] <;> omega))) (fc vr (fc vr (fc vr (fn))))))) (sc rfl (sc rfl (sn)))), h⟩
    replace h := h.2 hb4
    refine qZ (rZ (wZ rg (o_eql rfl rfl (asZ (.bool ((at' f.Nodes x).Kind == 2)) rfl (nZ ?_)))))
    refine Vc.cond' rfl (fun hb5 => ?_) (fun hb5 => ?_)
    · replace h := h.1 hb5
      refine rZ ?_
      refine mvZ (.sl 1 rg 14 g2 0 values1.length) rfl (mvZ (.int .i64 x) rfl (mvZ (.int .i64 n) rfl (wZ rg (o_faP td154 rfl rfl (by rw [sz22]; decide) rfl (wZ rg (o_loadB1 (atL (k := 7) rfl) sz22 ag22 rfl rfl (v := eL (AV.int .i64) ((at' f.Nodes x).Args)) rfl (wZ rg (o_len td22 rfl (wZ rg (o_eql rfl rfl (wZ rg (o_idxR0 td139 sz4 (by decide) rfl rfl h.1 ?_))))))))))))
      have hi2 := h.1
      replace h := h.2
      refine wZ rg (o_storeR1 (atL (k := 14) rfl) sz4 (by decide) (x' := (n == (((at' f.Nodes x).Args).length : Int))) (fun _ => rfl) rfl rfl (lt_of hi2 (by first | rfl | omega | (simp only [go_sem] <;> omega))) rfl rfl setL (nZ (rZ (wZ rg (o_addG rfl rfl h.1 ?_)))))
      replace h := h.2
      refine mvZ (.int .i64 (x + 1)) rfl (nZ ?_)
      exact ⟨((x + 1), (set' values1 x (n == (((at' f.Nodes x).Args).length : Int)))), (canon (fc vr (fc vr (fc (VW.slen (by first | rfl | omega | (simp only [go_sem] <;> omega))) (fc vr (fc vr (fc vr (fn))))))) (sc rfl (sc rfl (sn)))), h⟩
    replace h := h.2 hb5
    refine qZ (rZ (wZ rg (o_eql rfl rfl (asZ (.bool ((at' f.Nodes x).Kind == 3)) rfl (nZ ?_)))))
    refine Vc.cond' rfl (fun hb6 => ?_) (fun hb6 => ?_)
    · replace h := h.1 hb6
      refine rZ ?_
      refine mvZ (.sl 1 rg 14 g2 0 values1.length) rfl (mvZ (.int .i64 x) rfl (mvZ (.int .i64 n) rfl (wZ rg (o_gtr rfl rfl (wZ rg (o_idxR0 td139 sz4 (by decide) rfl rfl h.1 ?_))))))
      have hi3 := h.1
      replace h := h.2
      refine wZ rg (o_storeR1 (atL (k := 14) rfl) sz4 (by decide) (x' := (decide (0 < n))) (fun _ => rfl) rfl rfl (lt_of hi3 (by first | rfl | omega | (simp only [go_sem] <;> omega))) rfl rfl setL (nZ (rZ (wZ rg (o_addG rfl rfl h.1 ?_)))))
      replace h := h.2
      refine mvZ (.int .i64 (x + 1)) rfl (nZ ?_)
      exact ⟨((x + 1), (set' values1 x (decide (0 < n)))), (canon (fc vr (fc vr (fc (VW.slen (by first | rfl | omega | (simp only [go_sem] <;> omega))) (fc vr (fc vr (fc vr (fn))))))) (sc rfl (sc rfl (sn)))), h⟩
    replace h := h.2 hb6
    refine qZ (rZ (wZ rg (o_eql rfl rfl (asZ (.bool ((at' f.Nodes x).Kind == 4)) rfl (nZ ?_)))))
    refine Vc.cond' rfl (fun hb7 => ?_) (fun hb7 => ?_)
    · replace h := h.1 hb7
      refine rZ ?_
      refine mvZ (.sl 1 rg 14 g2 0 values1.length) rfl (mvZ (.int .i64 x) rfl (mvZ (.int .i64 n) rfl (wZ rg (o_faP td154 rfl rfl (by rw [sz3]; decide) rfl (wZ rg (o_loadB1 (atL (k := 7) rfl) sz3 ag3 rfl rfl (v := .int .i64 ((at' f.Nodes x).K)) rfl (wZ rg (o_geq rfl rfl (wZ rg (o_idxR0 td139 sz4 (by decide) rfl rfl h.1 ?_))))))))))
      have hi4 := h.1
      replace h := h.2
      refine wZ rg (o_storeR1 (atL (k := 14) rfl) sz4 (by decide) (x' := (decide ((at' f.Nodes x).K ≤ n))) (fun _ => rfl) rfl rfl (lt_of hi4 (by first | rfl | omega | (simp only [go_sem] <;> omega))) rfl rfl setL (nZ (rZ (wZ rg (o_addG rfl rfl h.1 ?_)))))
      replace h := h.2
      refine mvZ (.int .i64 (x + 1)) rfl (nZ ?_)
      exact ⟨((x + 1), (set' values1 x (decide ((at' f.Nodes x).K ≤ n)))), (canon (fc vr (fc vr (fc (VW.slen (by first | rfl | omega | (simp only [go_sem] <;> omega))) (fc vr (fc vr (fc vr (fn))))))) (sc rfl (sc rfl (sn)))), h⟩
    replace h := h.2 hb7
    refine rZ ?_
    refine mvZ (.sl 1 rg 14 g2 0 values1.length) rfl (mvZ (.int .i64 x) rfl (mvZ (.int .i64 n) rfl (wZ rg (o_rem rfl rfl (by decide) (wZ rg (o_eql rfl rfl (wZ rg (o_idxR0 td139 sz4 (by decide) rfl rfl h.1 ?_))))))))
    have hi5 := h.1
    replace h := h.2
    refine wZ rg (o_storeR1 (atL (k := 14) rfl) sz4 (by decide) (x' := ((Int.tmod n 2) == 1)) (fun _ => rfl) rfl rfl (lt_of hi5 (by first | rfl | omega | (simp only [go_sem] <;> omega))) rfl rfl setL (nZ (rZ (wZ rg (o_addG rfl rfl h.1 ?_)))))
    replace h := h.2
    refine mvZ (.int .i64 (x + 1)) rfl (nZ ?_)
    exact ⟨((x + 1), (set' values1 x ((Int.tmod n 2) == 1))), (canon (fc vr (fc vr (fc (VW.slen (by first | rfl | omega | (simp only [go_sem] <;> omega))) (fc vr (fc vr (fc vr (fn))))))) (sc rfl (sc rfl (sn)))), h⟩
  replace h := h.2 hb
  refine Vc.exit' (exB_self ?_)
  refine qZ (rZ (mvZ (.sl 1 rg 14 g2 0 values.length) rfl (asZ (.sl 1 rg 14 g2 0 values.length) rfl (nZ ?_))))
  refine Vc.ret' ?_
  refine res_tmp (v := .sl 1 rg 14 g2 0 values.length) rfl (res_nil ?_)
  show Gives _ (.sl 1 rg 14 g2 0 values.length) _
  refine gives_freeze (k := 14) (xs := List.map AV.bool values) rfl (v' := eL AV.bool values) (frz_full rfl) ?_
  exact gives_out hrg (VW.refl _) (hQ _ h)
theorem ref08_Value_ctr {f : GFormula} {failed : Int} {Q : Bool → Prop} {S : St} {R : AV → St → Prop} (h : ref08_Value_W f failed Q) (hQ : ∀ r1, Q r1 → R (AV.bool r1) S) :
    Ctr Try.prog 198 [eFormula f, AV.int .i64 failed] S R := by
  unfold ref08_Value_W at h
  refine enterT Try.func198 rfl Try.ntmps198 Try.results198 (by kernel_rfl) (fun rg hrg => ?_)
  refine qZ (rZ (wZ rg (o_box (v := eFormula f) rfl rfl (kk := 3) rfl (by decide) (fun g1 => (asZ (.bool false) rfl (nZ (qZ ?_)))))))
  obtain ⟨r, hc, h⟩ := h
  obtain ⟨r1, hc1, h⟩ := h
  refine Vc.drawn' mixed rg (usOf [(3, pc (eL AV.bool r)), (7, pc (.bool r1))]) (by kernel_rfl) ?_
  refine dL (E := ([(rg, 2)], [])) rfl rfl (by simp) (cfn) (o_loadBA (atL (k := 2) rfl) sz68 (by decide) ag68 rfl rfl (v := eFormula f) rfl (dL (E := ([(rg, 2)], [])) rfl rfl (by simp) (cfa (by simp [apartE]) (cfn)) (o_loadBA (atL (k := 2) rfl) sz68 (by decide) ag68 rfl rfl (v := eFormula f) rfl (dP rfl rfl (o_move (v := .int .i64 failed) rfl ?_)))))
  refine dC (vs := [eFormula f, AV.int .i64 failed]) rfl (vl' vr (vl' vr (vn))) (fun _ => ref08_Values_ctr hc (fun _ hr => ⟨by rw [hr], rfl⟩)) rfl ?_
  refine dP rfl rfl (o_move (v := .int .i64 failed) rfl (dP rfl rfl (o_faP td68 rfl rfl (by rw [sz3]; decide) rfl (dL (E := ([(rg, 2)], [])) rfl rfl (by simp) (cfa (by simp [apartE]) (cfa (by simp [apartE]) (cfn))) (o_loadB1 (atL (k := 2) rfl) sz3 ag3 rfl rfl (v := .int .i64 f.Top) rfl ?_)))))
  refine dC (vs := [eFormula f, eL AV.bool r, AV.int .i64 failed, AV.int .i64 f.Top]) rfl (vl' vr (vl' vr (vl' vr (vl' vr (vn))))) (fun _ => ref08_Of_ctr hc1 (fun _ hr => ⟨by rw [hr], rfl⟩)) rfl ?_
  refine dP rfl rfl (o_assign (v := .bool r1) rfl (dN ?_))
  refine Vc.ret' ?_
  refine res_tmp (v := .bool r1) rfl (res_nil ?_)
  show Gives _ (.bool r1) _
  exact gives_out hrg (VW.refl _) (hQ _ h)
end Go.Proofs.Ytllegjdggcmgaaa
/- Walks of functions. Conditions: none. -/
namespace Go.Proofs.Ytllegjdggcmgaaa
open Go.Gg
set_option maxRecDepth 100000
theorem ref15_add__e_ctr {fu : Nat} : ∀ {Order : List Int} {Root : Int} {table : List Bool} {level : Int} {state : Int} {u : List GDNode} {q0 k0 g0 : Nat} (_hdk : DK [(q0, k0)]) {Q : List GDNode → List Int → Int → Int → Prop} {S : St} {R : AV → St → Prop} (_h : ref15_add__e_W fu Order Root table level state u Q) (_hQ : ∀ r1 r2 r3 r4, ∀ h0, Q r1 r2 r3 r4 → R (.tuple [.agg [eL (AV.int .i64) r2, .sl 3 q0 k0 h0 0 r1.length, .int .i64 r3], AV.int .i64 r4]) (stX S [(q0, k0, .arr 3 (List.map eDNode r1), h0)])),
    Ctr Try.prog 188 [.agg [eL (AV.int .i64) Order, .sl 3 q0 k0 g0 0 u.length, .int .i64 Root], eL AV.bool table, AV.int .i64 level, AV.int .i64 state] (stX S [(q0, k0, .arr 3 (List.map eDNode u), g0)]) R := by
  induction fu with
  | zero =>
    intro Order Root table level state u q0 k0 g0 hdk Q S R h hQ
    exact False.elim h
  | succ fu ih =>
  intro Order Root table level state u q0 k0 g0 hdk Q S R h hQ
  rw [ref15_add__e_W] at h
  refine enterT Try.func188 rfl Try.ntmps188 Try.results188 (by kernel_rfl) (fun rg hrg => ?_)
  have hdx : DX [(q0, k0, .arr 3 (List.map eDNode u), g0)] := hdk
  have hfr := fun X' e => fresh_set (S := S) (rg := rg) (X := [(q0, k0, .arr 3 (List.map eDNode u), g0)]) (X' := X') e hrg
  have hne0 := fresh_ne hdx hrg 0 rfl
  refine qZ (rZ (wZ rg (o_box (v := .agg [eL (AV.int .i64) Order, .sl 3 q0 k0 g0 0 u.length, .int .i64 Root]) rfl rfl (kk := 3) rfl (by decide) (fun g1 => (wZ rg (o_alloc zav25 ok25 (kk := 3) rfl (fun g2 => (asZ (.int .i64 0) rfl (nZ (qZ (qZ (rZ (mvZ (.int .i64 level) rfl (wZ rg (o_faP td25 rfl rfl (by rw [sz22]; decide) rfl ?_)))))))))))))))
  refine wZ rg (o_loadB1 (atL (k := 4) rfl) sz22 ag22 rfl rfl (v := eL (AV.int .i64) Order) rfl (wZ rg (o_len td22 rfl (wZ rg (o_eql rfl rfl (nZ ?_))))))
  refine Vc.cond' rfl (fun hb => ?_) (fun hb => ?_)
  · replace h := h.1 hb
    refine qZ (qZ (rZ (mvZ (eL AV.bool table) rfl (mvZ (.int .i64 state) rfl (wZ rg (o_idxL td139 sz4 (by decide) (fun _ => rfl) rfl rfl h.1 ?_))))))
    replace h := h.2
    refine wZ rg (o_loadI1 sz4 ag4 rfl rfl (v := .bool (at' table state)) rfl (nZ ?_))
    refine Vc.cond' rfl (fun hb1 => ?_) (fun hb1 => ?_)
    · replace h := h.1 hb1
      refine qZ (rZ (wZ rg (o_loadBA (atL (k := 4) rfl) sz25 (by decide) ag25 rfl rfl (v := .agg [eL (AV.int .i64) Order, .sl 3 q0 k0 g0 0 u.length, .int .i64 Root]) rfl (wZ rg (o_storeB (atL (k := 8) rfl) sz25 (by decide) rfl (w := .agg [eL (AV.int .i64) Order, .sl 3 q0 k0 g0 0 u.length, .int .i64 Root]) rfl rfl rfl (v := .agg [eL (AV.int .i64) Order, .sl 3 q0 k0 g0 0 u.length, .int .i64 Root]) rfl setL ?_)))))
      refine asZ (.int .i64 1) rfl (nZ ?_)
      refine Vc.ret' ?_
      refine res_cellA (atL (k := 8) rfl) sz25 (by decide) ag25 rfl rfl (v := .agg [eL (AV.int .i64) Order, .sl 3 q0 k0 g0 0 u.length, .int .i64 Root]) rfl (res_tmp (v := .int .i64 1) rfl (res_nil ?_))
      show Gives _ (.tuple [.agg [eL (AV.int .i64) Order, .sl 3 q0 k0 g0 0 u.length, .int .i64 Root], .int .i64 1]) _
      exact gives_out (hfr _ rfl) (VW.tupL (vl' vr (vl' vr (vn)))) (hQ _ _ _ _ _ h)
    replace h := h.2 hb1
    refine Vc.skip' ?_
    refine qZ (rZ (wZ rg (o_loadBA (atL (k := 4) rfl) sz25 (by decide) ag25 rfl rfl (v := .agg [eL (AV.int .i64) Order, .sl 3 q0 k0 g0 0 u.length, .int .i64 Root]) rfl (wZ rg (o_storeB (atL (k := 8) rfl) sz25 (by decide) rfl (w := .agg [eL (AV.int .i64) Order, .sl 3 q0 k0 g0 0 u.length, .int .i64 Root]) rfl rfl rfl (v := .agg [eL (AV.int .i64) Order, .sl 3 q0 k0 g0 0 u.length, .int .i64 Root]) rfl setL ?_)))))
    refine asZ (.int .i64 0) rfl (nZ ?_)
    refine Vc.ret' ?_
    refine res_cellA (atL (k := 8) rfl) sz25 (by decide) ag25 rfl rfl (v := .agg [eL (AV.int .i64) Order, .sl 3 q0 k0 g0 0 u.length, .int .i64 Root]) rfl (res_tmp (v := .int .i64 0) rfl (res_nil ?_))
    show Gives _ (.tuple [.agg [eL (AV.int .i64) Order, .sl 3 q0 k0 g0 0 u.length, .int .i64 Root], .int .i64 0]) _
    exact gives_out (hfr _ rfl) (VW.tupL (vl' vr (vl' vr (vn)))) (hQ _ _ _ _ _ h)
  replace h := h.2 hb
  refine Vc.skip' ?_
  refine qZ (rZ (wZ rg (o_loadBA (atL (k := 4) rfl) sz25 (by decide) ag25 rfl rfl (v := .agg [eL (AV.int .i64) Order, .sl 3 q0 k0 g0 0 u.length, .int .i64 Root]) rfl (mvZ (eL AV.bool table) rfl (mvZ (.int .i64 level) rfl (wZ rg (o_addG rfl rfl h.1 ?_)))))))
  replace h := h.2
  refine mvZ (.int .i64 state) rfl (wZ rg (o_call (us := [.agg [eL (AV.int .i64) Order, .sl 3 q0 k0 g0 0 u.length, .int .i64 Root], eL AV.bool table, AV.int .i64 (level + 1), AV.int .i64 state]) rfl (vl' vr (vl' vr (vl' vr (vl' vr (vn))))) (ctrX (sx_c (atX hne0 hdx 0 rfl) (sx_n)) (ih (dk_c (ni_n) (dk_n)) h fun u1 r r1 r2 g3 h => ?_))))
  refine Wl.eqS (sy_c (sx_n) (setX hne0 hdx 0 rfl rfl)) ?_
  refine mvZ (.tuple [.agg [eL (AV.int .i64) r, .sl 3 q0 k0 g3 0 u1.length, .int .i64 r1], .int .i64 r2]) rfl (wZ rg (o_extract (v := .agg [eL (AV.int .i64) r, .sl 3 q0 k0 g3 0 u1.length, .int .i64 r1]) rfl rfl rfl (wZ rg (o_extract (v := .int .i64 r2) rfl rfl rfl ?_))))
  refine wZ rg (o_storeB (atL (k := 4) rfl) sz25 (by decide) rfl (w := .agg [eL (AV.int .i64) r, .sl 3 q0 k0 g3 0 u1.length, .int .i64 r1]) rfl rfl rfl (v := .agg [eL (AV.int .i64) r, .sl 3 q0 k0 g3 0 u1.length, .int .i64 r1]) rfl setL (asZ (.int .i64 r2) rfl (nZ (qZ ?_))))
  have hg := h.1
  replace h := h.2
  have hg1 := h.1
  replace h := h.2
  have hg2 := h.1
  replace h := h.2
  obtain ⟨u2, r3, r4, r5, hc, h⟩ := h
  refine Vc.drawn' mixed rg (usOf [(12, wc (fun gm => .tuple [.agg [eL (AV.int .i64) r3, .sl 3 q0 k0 (gm 0) 0 u2.length, .int .i64 r4], .int .i64 r5]) [] [(q0, k0)] (fun gm => [(q0, k0, .arr 3 (List.map eDNode u2), (gm 0))]))]) (by kernel_rfl) ?_
  refine dL (E := ([(rg, 4)], [])) rfl rfl (by simp) (cfn) (o_loadBA (atL (k := 4) rfl) sz25 (by decide) ag25 rfl rfl (v := .agg [eL (AV.int .i64) r, .sl 3 q0 k0 g3 0 u1.length, .int .i64 r1]) rfl (dP rfl rfl (o_move (v := eL AV.bool table) rfl (dP rfl rfl (o_move (v := .int .i64 level) rfl (dP rfl rfl (o_addG rfl rfl hg (dP rfl rfl (o_move (v := .int .i64 state) rfl ?_)))))))))
  refine dP rfl rfl (o_faP td25 rfl rfl (by rw [sz22]; decide) rfl (dL (E := ([(rg, 4)], [])) rfl rfl (by simp) (cfa (by simp [apartE]) (cfn)) (o_loadB1 (atL (k := 4) rfl) sz22 ag22 rfl rfl (v := eL (AV.int .i64) r) rfl (dP rfl rfl (o_move (v := .int .i64 level) rfl (dP rfl rfl (o_idxL td22 sz3 (by decide) (fun _ => rfl) rfl rfl hg1 ?_)))))))
  refine dP rfl rfl (o_loadI1 sz3 ag3 rfl rfl (v := .int .i64 (at' r level)) rfl (dP rfl rfl (o_shlG rfl rfl hg2 (dP rfl rfl (o_or rfl rfl ?_)))))
  refine dCE (vs := [.agg [eL (AV.int .i64) r, .sl 3 q0 k0 g3 0 u1.length, .int .i64 r1], eL AV.bool table, AV.int .i64 (level + 1), AV.int .i64 (bits .or .i64 state (1 * 2 ^ (Int.toNat (at' r level))))]) (V := fun gm => .tuple [.agg [eL (AV.int .i64) r3, .sl 3 q0 k0 (gm 0) 0 u2.length, .int .i64 r4], .int .i64 r5]) (rd := []) (wk := [(q0, k0)]) (wr := fun gm => [(q0, k0, .arr 3 (List.map eDNode u2), (gm 0))]) rfl (vl' vr (vl' vr (vl' vr (vl' vr (vn))))) rfl (cfo (by kernel_rfl) (cfo (by kernel_rfl) (cfn))) (by simp) (fun _ => rfl) (fun S' hA hB => ctrX (sx_c (ag hB 0 rfl (atX hne0 hdx 0 rfl)) (sx_n)) (ih (dk_c (ni_n) (dk_n)) hc (fun _ _ _ _ h0 he => by obtain ⟨rfl, rfl, rfl, rfl⟩ := he; exact ⟨fun i => [h0].getD i 0, rfl, sm_c (sx_n)⟩))) (fun gm => ?_)
  refine vdT.eqS (sa_c (sa_n) (setX hne0 hdx 0 rfl rfl)) ?_
  refine dP rfl rfl (o_move (v := .tuple [.agg [eL (AV.int .i64) r3, .sl 3 q0 k0 (gm 0) 0 u2.length, .int .i64 r4], .int .i64 r5]) rfl (dP rfl rfl (o_extract (v := .agg [eL (AV.int .i64) r3, .sl 3 q0 k0 (gm 0) 0 u2.length, .int .i64 r4]) rfl rfl rfl (dP rfl rfl (o_extract (v := .int .i64 r5) rfl rfl rfl ?_)))))
  refine dL (E := ([], [(rg, 4)])) rfl rfl (by simp) (cfo (by kernel_rfl) (cfo (by kernel_rfl) (cfo (by kernel_rfl) (cfn)))) (o_storeB (atL (k := 4) rfl) sz25 (by decide) rfl (w := .agg [eL (AV.int .i64) r3, .sl 3 q0 k0 (gm 0) 0 u2.length, .int .i64 r4]) rfl rfl rfl (v := .agg [eL (AV.int .i64) r3, .sl 3 q0 k0 (gm 0) 0 u2.length, .int .i64 r4]) rfl setL (dP rfl rfl (o_assign (v := .int .i64 r5) rfl (dN ?_))))
  refine qZ (qZ (rZ (mvZ (.int .i64 r2) rfl (mvZ (.int .i64 r5) rfl (wZ rg (o_eql rfl rfl (nZ ?_)))))))
  refine Vc.cond' rfl (fun hb2 => ?_) (fun hb2 => ?_)
  · replace h := h.1 hb2
    refine qZ (rZ (wZ rg (o_loadBA (atL (k := 4) rfl) sz25 (by decide) ag25 rfl rfl (v := .agg [eL (AV.int .i64) r3, .sl 3 q0 k0 (gm 0) 0 u2.length, .int .i64 r4]) rfl (mvZ (.int .i64 r2) rfl ?_))))
    refine wZ rg (o_storeB (atL (k := 8) rfl) sz25 (by decide) rfl (w := .agg [eL (AV.int .i64) r3, .sl 3 q0 k0 (gm 0) 0 u2.length, .int .i64 r4]) rfl rfl rfl (v := .agg [eL (AV.int .i64) r3, .sl 3 q0 k0 (gm 0) 0 u2.length, .int .i64 r4]) rfl setL (asZ (.int .i64 r2) rfl (nZ ?_)))
    refine Vc.ret' ?_
    refine res_cellA (atL (k := 8) rfl) sz25 (by decide) ag25 rfl rfl (v := .agg [eL (AV.int .i64) r3, .sl 3 q0 k0 (gm 0) 0 u2.length, .int .i64 r4]) rfl (res_tmp (v := .int .i64 r2) rfl (res_nil ?_))
    show Gives _ (.tuple [.agg [eL (AV.int .i64) r3, .sl 3 q0 k0 (gm 0) 0 u2.length, .int .i64 r4], .int .i64 r2]) _
    exact gives_out (hfr _ rfl) (VW.tupL (vl' vr (vl' vr (vn)))) (hQ _ _ _ _ _ h)
  replace h := h.2 hb2
  refine Vc.skip' ?_
  refine qZ (rZ (wZ rg (o_faP td25 rfl rfl (by rw [sz22]; decide) rfl (wZ rg (o_loadB1 (atL (k := 4) rfl) sz22 ag22 rfl rfl (v := eL (AV.int .i64) r3) rfl (mvZ (.int .i64 level) rfl (wZ rg (o_idxL td22 sz3 (by decide) (fun _ => rfl) rfl rfl h.1 ?_))))))))
  replace h := h.2
  refine wZ rg (o_loadI1 sz3 ag3 rfl rfl (v := .int .i64 (at' r3 level)) rfl (mvZ (.int .i64 r2) rfl (mvZ (.int .i64 r5) rfl (wZ rg (o_build td134 zav134 bok134 szs134 sz134 (ps := [(0, .int .i64 (at' r3 level)), (1, .int .i64 r2), (2, .int .i64 r5)]) rfl rfl (v := .agg [.int .i64 (at' r3 level), .int .i64 r2, .int .i64 r5]) rfl (wZ rg (o_alloc zav134 ok134 (kk := 3) rfl (fun g4 => ?_))))))))
  refine wZ rg (o_storeB (atL (k := 12) rfl) sz134 (by decide) rfl (w := .agg [.int .i64 (at' r3 level), .int .i64 r2, .int .i64 r5]) rfl rfl rfl (v := .agg [.int .i64 (at' r3 level), .int .i64 r2, .int .i64 r5]) rfl setL (nZ (qZ (qZ (rZ (asZ (.int .i64 0) rfl (nZ ?_)))))))
  refine Vc.blk ?_
  obtain ⟨I, μ, h0, hI⟩ := h
  refine Vc.loop' (σ := (Int)) (fun y => I y) (fun y => μ y) (fun y => envOf [(4, .ptr rg 4 g1 0 0), (8, .ptr rg 8 g2 0 0), (12, .ptr rg 12 g4 0 0), (13, .int .i64 y)]) (fun y => stL (stX S [(q0, k0, .arr 3 (List.map eDNode u2), (gm 0))]) rg [(4, .arr 3 [.agg [eL (AV.int .i64) r3, .sl 3 q0 k0 (gm 0) 0 u2.length, .int .i64 r4]], g1), (8, .arr 3 [.agg [.nil, .nil, .int .i64 0]], g2), (12, .arr 3 [.agg [.int .i64 (at' r3 level), .int .i64 r2, .int .i64 r5]], g4)]) 0 (canon (fc vr (fc vr (fc vr (fc vr (fn))))) (sc rfl (sc rfl (sc rfl (sn))))) h0 (fun i h => ?_)
  replace h := hI i h
  show Vc _ _ _ _ (envOf [(4, .ptr rg 4 g1 0 0), (8, .ptr rg 8 g2 0 0), (12, .ptr rg 12 g4 0 0), (13, .int .i64 i)]) (stL (stX S [(q0, k0, .arr 3 (List.map eDNode u2), (gm 0))]) rg [(4, .arr 3 [.agg [eL (AV.int .i64) r3, .sl 3 q0 k0 (gm 0) 0 u2.length, .int .i64 r4]], g1), (8, .arr 3 [.agg [.nil, .nil, .int .i64 0]], g2), (12, .arr 3 [.agg [.int .i64 (at' r3 level), .int .i64 r2, .int .i64 r5]], g4)])
  refine qZ (qZ (rZ (mvZ (.int .i64 i) rfl (wZ rg (o_faP td25 rfl rfl (by rw [sz23]; decide) rfl (wZ rg (o_loadB1 (atL (k := 4) rfl) sz23 ag23 rfl rfl (v := .sl 3 q0 k0 (gm 0) 0 u2.length) rfl (wZ rg (o_lenR td23 rfl (wZ rg (o_lss rfl rfl (nZ ?_))))))))))))
  refine Vc.cond' rfl (fun hb3 => ?_) (fun hb3 => ?_)
  · replace h := h.1 hb3
    refine Vc.skip' ?_
    refine qZ ?_
    refine Vc.blk ?_
    refine qZ ?_
    have hi := h.1
    replace h := h.2
    refine Vc.drawn' mixed rg (fun _ => jcr2) (by kernel_rfl) ?_
    refine dP rfl rfl (o_faP td25 rfl rfl (by rw [sz23]; decide) rfl (dL (E := ([(rg, 4)], [])) rfl rfl (by simp) (cfn) (o_loadB1 (atL (k := 4) rfl) sz23 ag23 rfl rfl (v := .sl 3 q0 k0 (gm 0) 0 u2.length) rfl (dP rfl rfl (o_move (v := .int .i64 i) rfl (dP rfl rfl (o_idxR0 td23 sz134 (by decide) rfl rfl hi ?_)))))))
    refine dL (E := ([(q0, k0)], [])) rfl rfl (by simp) (cfo (by kernel_rfl) (cfn)) (o_loadRA (atX hne0 hdx 0 rfl) sz134 (by decide) ag134 rfl (lt_of hi (by first | rfl | omega | (simp only [go_sem] <;> omega))) rfl (v := eDNode (at' u2 i)) rfl ?_)
    refine dL (E := ([(rg, 12)], [])) rfl rfl (by simp) (cfa (by simp [apartE]) (cfa (by simp [apartE]) (cfn))) (o_loadBA (atL (k := 12) rfl) sz134 (by decide) ag134 rfl rfl (v := .agg [.int .i64 (at' r3 level), .int .i64 r2, .int .i64 r5]) rfl (dP rfl rfl (o_eqlS ksh134 rfl rfl rfl rfl (dN ?_))))
    refine Vc.cond' rfl (fun hb4 => ?_) (fun hb4 => ?_)
    · replace h := h.1 hb4
      refine qZ (rZ (wZ rg (o_loadBA (atL (k := 4) rfl) sz25 (by decide) ag25 rfl rfl (v := .agg [eL (AV.int .i64) r3, .sl 3 q0 k0 (gm 0) 0 u2.length, .int .i64 r4]) rfl (mvZ (.int .i64 i) rfl (wZ rg (o_addG rfl rfl h.1 ?_))))))
      replace h := h.2
      refine wZ rg (o_storeB (atL (k := 8) rfl) sz25 (by decide) rfl (w := .agg [eL (AV.int .i64) r3, .sl 3 q0 k0 (gm 0) 0 u2.length, .int .i64 r4]) rfl rfl rfl (v := .agg [eL (AV.int .i64) r3, .sl 3 q0 k0 (gm 0) 0 u2.length, .int .i64 r4]) rfl setL (asZ (.int .i64 (2 + i)) rfl (nZ ?_)))
      refine Vc.ret' ?_
      refine res_cellA (atL (k := 8) rfl) sz25 (by decide) ag25 rfl rfl (v := .agg [eL (AV.int .i64) r3, .sl 3 q0 k0 (gm 0) 0 u2.length, .int .i64 r4]) rfl (res_tmp (v := .int .i64 (2 + i)) rfl (res_nil ?_))
      show Gives _ (.tuple [.agg [eL (AV.int .i64) r3, .sl 3 q0 k0 (gm 0) 0 u2.length, .int .i64 r4], .int .i64 (2 + i)]) _
      exact gives_out (hfr _ rfl) (VW.tupL (vl' vr (vl' vr (vn)))) (hQ _ _ _ _ _ h)
    replace h := h.2 hb4
    refine Vc.skip' ?_
    refine rZ ?_
    refine mvZ (.int .i64 i) rfl (wZ rg (o_addG rfl rfl h.1 ?_))
    replace h := h.2
    refine asZ (.int .i64 (i + 1)) rfl (nZ ?_)
    exact ⟨(i + 1), (canon (fc vr (fc vr (fc vr (fc vr (fn))))) (sc rfl (sc rfl (sc rfl (sn))))), h⟩
  replace h := h.2 hb3
  refine Vc.exit' (exB_self ?_)
  refine qZ (rZ (wZ rg (o_faP td25 rfl rfl (by rw [sz23]; decide) rfl (wZ rg (o_loadB1 (atL (k := 4) rfl) sz23 ag23 rfl rfl (v := .sl 3 q0 k0 (gm 0) 0 u2.length) rfl (wZ rg (o_loadBA (atL (k := 12) rfl) sz134 (by decide) ag134 rfl rfl (v := .agg [.int .i64 (at' r3 level), .int .i64 r2, .int .i64 r5]) rfl ?_)))))))
  refine wZ rg (o_bslice td23 ok134 zav134 (es := [.agg [.int .i64 (at' r3 level), .int .i64 r2, .int .i64 r5]]) rfl (kk := 3) rfl rfl rfl rfl rfl rfl (fun g5 => ?_))
  refine wZ rg (o_appR td23 bts134 ok134 zav134 (es := u2) (xs := [(⟨(at' r3 level), r2, r5⟩ : GDNode)]) (enc := eDNode) (atX hne0 hdx 0 rfl) (by first | rfl | omega | (simp only [go_sem] <;> omega)) (view_rowE (atL (k := 83) rfl) (by first | rfl | omega | (simp only [go_sem] <;> omega))) (kk := 3) rfl rfl (fun _ => rfl) (fun _ => rfl) h.1 rfl (fun _ => (setX hne0 hdx 0 rfl rfl)) (fun g6 => ?_))
  replace h := h.2
  refine wZ rg (o_faP td25 rfl rfl (by rw [sz23]; decide) rfl (wZ rg (o_storeB (atL (k := 4) rfl) sz23 (by decide) rfl (w := .sl 3 q0 k0 g6 0 ((u2 ++ [(⟨(at' r3 level), r2, r5⟩ : GDNode)]).length)) rfl rfl rfl (v := .agg [eL (AV.int .i64) r3, .sl 3 q0 k0 g6 0 ((u2 ++ [(⟨(at' r3 level), r2, r5⟩ : GDNode)]).length), .int .i64 r4]) rfl setL (nZ (qZ ?_)))))
  have hg3 := h.1
  replace h := h.2
  refine Vc.drawn' mixed rg (fun _ => jcr2) (by kernel_rfl) ?_
  refine dL (E := ([(rg, 4)], [])) rfl rfl (by simp) (cfn) (o_loadBA (atL (k := 4) rfl) sz25 (by decide) ag25 rfl rfl (v := .agg [eL (AV.int .i64) r3, .sl 3 q0 k0 g6 0 ((u2 ++ [(⟨(at' r3 level), r2, r5⟩ : GDNode)]).length), .int .i64 r4]) rfl (dP rfl rfl (o_faP td25 rfl rfl (by rw [sz23]; decide) rfl ?_)))
  refine dL (E := ([(rg, 4)], [])) rfl rfl (by simp) (cfa (by simp [apartE]) (cfn)) (o_loadB1 (atL (k := 4) rfl) sz23 ag23 rfl rfl (v := .sl 3 q0 k0 g6 0 ((u2 ++ [(⟨(at' r3 level), r2, r5⟩ : GDNode)]).length)) rfl (dP rfl rfl (o_lenR td23 rfl (dP rfl rfl (o_addG rfl rfl hg3 ?_)))))
  refine dL (E := ([], [(rg, 8)])) rfl rfl (by simp) (cfa (by simp [apartE]) (cfo (by kernel_rfl) (cfn))) (o_storeB (atL (k := 8) rfl) sz25 (by decide) rfl (w := .agg [eL (AV.int .i64) r3, .sl 3 q0 k0 g6 0 ((u2 ++ [(⟨(at' r3 level), r2, r5⟩ : GDNode)]).length), .int .i64 r4]) rfl rfl rfl (v := .agg [eL (AV.int .i64) r3, .sl 3 q0 k0 g6 0 ((u2 ++ [(⟨(at' r3 level), r2, r5⟩ : GDNode)]).length), .int .i64 r4]) rfl setL ?_)
  refine dP rfl rfl (o_assign (v := .int .i64 (1 + ((u2 ++ [(⟨(at' r3 level), r2, r5⟩ : GDNode)]).length : Int))) rfl (dN ?_))
  refine Vc.ret' ?_
  refine res_cellA (atL (k := 8) rfl) sz25 (by decide) ag25 rfl rfl (v := .agg [eL (AV.int .i64) r3, .sl 3 q0 k0 g6 0 ((u2 ++ [(⟨(at' r3 level), r2, r5⟩ : GDNode)]).length), .int .i64 r4]) rfl (res_tmp (v := .int .i64 (1 + ((u2 ++ [(⟨(at' r3 level), r2, r5⟩ : GDNode)]).length : Int))) rfl (res_nil ?_))
  show Gives _ (.tuple [.agg [eL (AV.int .i64) r3, .sl 3 q0 k0 g6 0 ((u2 ++ [(⟨(at' r3 level), r2, r5⟩ : GDNode)]).length), .int .i64 r4], .int .i64 (1 + ((u2 ++ [(⟨(at' r3 level), r2, r5⟩ : GDNode)]).length : Int))]) _
  exact gives_out (hfr _ rfl) (VW.tupL (vl' vr (vl' vr (vn)))) (hQ _ _ _ _ _ h)
theorem ref15_Of_ctr {table : List Bool} {o : List Int} {Q : GDiagram → Prop} {S : St} {R : AV → St → Prop} (h : ref15_Of_W table o Q) (hQ : ∀ r1, Q r1 → R (eDiagram r1) S) :
    Ctr Try.prog 130 [eL AV.bool table, eL (AV.int .i64) o] S R := by
  unfold ref15_Of_W at h
  refine enterT Try.func130 rfl Try.ntmps130 Try.results130 (by kernel_rfl) (fun rg hrg => ?_)
  refine qZ (rZ (wZ rg (o_alloc zav25 ok25 (kk := 3) rfl (fun g1 => (nZ (qZ (rZ (wZ rg (o_build td25 zav25 bok25 szs25 sz25 (ps := []) rfl rfl (v := .agg [.nil, .nil, .int .i64 0]) rfl (wZ rg (o_alloc zav25 ok25 (kk := 3) rfl (fun g2 => (wZ rg (o_storeB (atL (k := 5) rfl) sz25 (by decide) rfl (w := .agg [.nil, .nil, .int .i64 0]) rfl rfl rfl (v := .agg [.nil, .nil, .int .i64 0]) rfl setL (nZ ?_)))))))))))))))
  refine qZ (rZ (wZ rg (o_faP td25 rfl rfl (by rw [sz22]; decide) rfl (wZ rg (o_loadB1 (atL (k := 5) rfl) sz22 ag22 rfl rfl (v := .nil) rfl (mvZ (eL (AV.int .i64) o) rfl (wZ rg (o_appN td22 bts3 ok3 zav3 (xs := o) (enc := AV.int .i64) (rfl) (kk := 1) rfl rfl (fun _ => rfl) (fun _ => rfl) h.1 rfl (fun g3 => ?_)))))))))
  replace h := h.2
  refine wZ rg (o_faP td25 rfl rfl (by rw [sz22]; decide) rfl (wZ rg (o_storeB (atL (k := 5) rfl) sz22 (by decide) rfl (w := .sl 1 rg 10 g3 0 o.length) rfl rfl rfl (v := .agg [.sl 1 rg 10 g3 0 o.length, .nil, .int .i64 0]) rfl setL (nZ (qZ (rZ (wZ rg (o_loadBA (atL (k := 5) rfl) sz25 (by decide) ag25 rfl rfl (v := .agg [.sl 1 rg 10 g3 0 o.length, .nil, .int .i64 0]) rfl (mvZ (eL AV.bool table) rfl ?_)))))))))
  refine Wl.wk (canon_freezeB (k := 10) (xs := List.map (AV.int .i64) o) rfl (es := [(4, .ptr rg 4 g1 0 0), (5, .ptr rg 5 g2 0 0), (13, .agg [eL (AV.int .i64) o, .nil, .int .i64 0]), (14, eL AV.bool table)]) (fc vr (fc vr (fc (VW.aggL (vl' (frz_full rfl) (vl' vr (vl' vr (vn))))) (fc vr (fn))))) (m := [(4, .arr 3 [.agg [.nil, .nil, .int .i64 0]], g1), (5, .arr 3 [.agg [eL (AV.int .i64) o, .nil, .int .i64 0]], g2)]) (zc rfl (zb rfl (zl (frz_full rfl) (zl vr (zl vr (zln)))) (zn)))) ?_
  obtain ⟨_, h⟩ := h
  refine wZ rg (o_call (us := [.agg [eL (AV.int .i64) o, .nil, .int .i64 0], eL AV.bool table, AV.int .i64 0, AV.int .i64 0]) rfl (vl' vr (vl' vr (vl' vr (vl' vr (vn))))) (Ctr.matC 0 1 rg 4800000 3 rfl rfl (by decide) (fun g4 => ctrX ((sx_c (atL (k := 4800000) rfl) (sx_n)).trans setL.symm) (ref15_add__e_ctr (dk_c (ni_n) (dk_n)) h fun u r r1 r2 g5 h => ?_))))
  refine Wl.eqS (sy_c (sx_n) setL) ?_
  refine mvZ (.tuple [.agg [eL (AV.int .i64) r, .sl 3 rg 4800000 g5 0 u.length, .int .i64 r1], .int .i64 r2]) rfl (wZ rg (o_extract (v := .agg [eL (AV.int .i64) r, .sl 3 rg 4800000 g5 0 u.length, .int .i64 r1]) rfl rfl rfl (wZ rg (o_extract (v := .int .i64 r2) rfl rfl rfl ?_))))
  refine wZ rg (o_storeB (atL (k := 5) rfl) sz25 (by decide) rfl (w := .agg [eL (AV.int .i64) r, .sl 3 rg 4800000 g5 0 u.length, .int .i64 r1]) rfl rfl rfl (v := .agg [eL (AV.int .i64) r, .sl 3 rg 4800000 g5 0 u.length, .int .i64 r1]) rfl setL (wZ rg (o_faP td25 rfl rfl (by rw [sz3]; decide) rfl ?_)))
  refine wZ rg (o_storeB (atL (k := 5) rfl) sz3 (by decide) rfl (w := .int .i64 r2) rfl rfl rfl (v := .agg [eL (AV.int .i64) r, .sl 3 rg 4800000 g5 0 u.length, .int .i64 r2]) rfl setL (nZ (qZ (rZ (wZ rg (o_loadBA (atL (k := 5) rfl) sz25 (by decide) ag25 rfl rfl (v := .agg [eL (AV.int .i64) r, .sl 3 rg 4800000 g5 0 u.length, .int .i64 r2]) rfl ?_))))))
  refine wZ rg (o_storeB (atL (k := 4) rfl) sz25 (by decide) rfl (w := .agg [eL (AV.int .i64) r, .sl 3 rg 4800000 g5 0 u.length, .int .i64 r2]) rfl rfl rfl (v := .agg [eL (AV.int .i64) r, .sl 3 rg 4800000 g5 0 u.length, .int .i64 r2]) rfl setL (nZ ?_))
  refine Vc.ret' ?_
  refine res_cellA (atL (k := 4) rfl) sz25 (by decide) ag25 rfl rfl (v := .agg [eL (AV.int .i64) r, .sl 3 rg 4800000 g5 0 u.length, .int .i64 r2]) rfl (res_nil ?_)
  show Gives _ (.agg [eL (AV.int .i64) r, .sl 3 rg 4800000 g5 0 u.length, .int .i64 r2]) _
  refine gives_freeze (k := 4800000) (xs := List.map eDNode u) rfl (v' := .agg [eL (AV.int .i64) r, eL eDNode u, .int .i64 r2]) (VW.aggL (vl' vr (vl' (frz_full rfl) (vl' vr (vn))))) ?_
  exact gives_out hrg (VW.refl _) (hQ _ h)
end Go.Proofs.Ytllegjdggcmgaaa
/- Walks of functions. Conditions: none. -/
namespace Go.Proofs.Ytllegjdggcmgaaa
open Go.Gg
set_option maxRecDepth 100000
theorem ref15_Formula_ctr {f : GFormula} {Q : List Bool → Prop} {S : St} {R : AV → St → Prop} (h : ref15_Formula_W f Q) (hQ : ∀ r1, Q r1 → R (eL AV.bool r1) S) :
    Ctr Try.prog 148 [eFormula f] S R := by
  unfold ref15_Formula_W at h
  refine enterT Try.func148 rfl Try.ntmps148 Try.results148 (by kernel_rfl) (fun rg hrg => ?_)
  refine qZ (rZ (wZ rg (o_box (v := eFormula f) rfl rfl (kk := 3) rfl (by decide) (fun g1 => (asZ .nil rfl (nZ (qZ (rZ (asZ .nil rfl (nZ (qZ (qZ (rZ (asZ (.int .i64 0) rfl (nZ ?_)))))))))))))))
  refine Vc.blk ?_
  refine Vc.mat 3 17 1 rfl (by decide) (fun g2 => ?_)
  obtain ⟨I, μ, h0, hI⟩ := h
  refine Vc.loop' (σ := ((Int × (List Bool)) × (Nat))) (fun y => I y.1) (fun y => μ y.1) (fun y => envOf [(1, .ptr rg 1 g1 0 0), (3, .sl 1 rg 17 y.2 0 y.1.2.length), (4, .int .i64 y.1.1)]) (fun y => stL S rg [(1, .arr 3 [eFormula f], g1), (17, .arr 1 (List.map AV.bool y.1.2), y.2)]) ((0, []), g2) (canon (fc vr (fc (VW.slen (by first | rfl | omega | (simp only [go_sem] <;> omega))) (fc vr (fn)))) (sc rfl (sc rfl (sn)))) h0 (fun y h => ?_)
  obtain ⟨⟨s, out⟩, g3⟩ := y
  replace h := hI (s, out) h
  show Vc _ _ _ _ (envOf [(1, .ptr rg 1 g1 0 0), (3, .sl 1 rg 17 g3 0 out.length), (4, .int .i64 s)]) (stL S rg [(1, .arr 3 [eFormula f], g1), (17, .arr 1 (List.map AV.bool out), g3)])
  refine qZ (qZ (rZ (mvZ (.int .i64 s) rfl (wZ rg (o_faP td68 rfl rfl (by rw [sz3]; decide) rfl (wZ rg (o_loadB1 (atL (k := 1) rfl) sz3 ag3 rfl rfl (v := .int .i64 f.Vars) rfl (wZ rg (o_shlG rfl rfl h.1 ?_)))))))))
  replace h := h.2
  refine wZ rg (o_lss rfl rfl (nZ ?_))
  refine Vc.cond' rfl (fun hb => ?_) (fun hb => ?_)
  · replace h := h.1 hb
    refine Vc.skip' ?_
    refine qZ ?_
    refine Vc.blk ?_
    refine rZ ?_
    refine mvZ (.sl 1 rg 17 g3 0 out.length) rfl (wZ rg (o_loadBA (atL (k := 1) rfl) sz68 (by decide) ag68 rfl rfl (v := eFormula f) rfl (mvZ (.int .i64 s) rfl (wZ rg (o_call (us := [eFormula f, AV.int .i64 s]) rfl (vl' vr (vl' vr (vn))) (ref08_Value_ctr h fun r h => (wZ rg (o_bslice td139 ok4 zav4 (es := [.bool r]) rfl (kk := 1) rfl rfl rfl rfl rfl rfl (fun g4 => ?_)))))))))
    refine wZ rg (o_appR td139 bts4 ok4 zav4 (es := out) (xs := [r]) (enc := AV.bool) (atL (k := 17) rfl) (by first | rfl | omega | (simp only [go_sem] <;> omega)) (view_rowE (atL (k := 16) rfl) (by first | rfl | omega | (simp only [go_sem] <;> omega))) (kk := 1) rfl rfl (fun _ => rfl) (fun _ => rfl) h.1 rfl (fun _ => setL) (fun g5 => ?_))
    replace h := h.2
    refine asZ (.sl 1 rg 17 g5 0 ((out ++ [r]).length)) rfl (nZ (rZ (mvZ (.int .i64 s) rfl (wZ rg (o_addG rfl rfl h.1 ?_)))))
    replace h := h.2
    refine asZ (.int .i64 (s + 1)) rfl (nZ ?_)
    exact ⟨(((s + 1), (out ++ [r])), g5), (canon (fc vr (fc vr (fc vr (fn)))) (sc rfl (sc rfl (sn)))), h⟩
  replace h := h.2 hb
  refine Vc.exit' (exB_self ?_)
  refine qZ (rZ (mvZ (.sl 1 rg 17 g3 0 out.length) rfl (asZ (.sl 1 rg 17 g3 0 out.length) rfl (nZ ?_))))
  refine Vc.ret' ?_
  refine res_tmp (v := .sl 1 rg 17 g3 0 out.length) rfl (res_nil ?_)
  show Gives _ (.sl 1 rg 17 g3 0 out.length) _
  refine gives_freeze (k := 17) (xs := List.map AV.bool out) rfl (v' := eL AV.bool out) (frz_full rfl) ?_
  exact gives_out hrg (VW.refl _) (hQ _ h)
theorem ref15_Build_ctr {f : GFormula} {o : List Int} {Q : GDiagram → Prop} {S : St} {R : AV → St → Prop} (h : ref15_Build_W f o Q) (hQ : ∀ r1, Q r1 → R (eDiagram r1) S) :
    Ctr Try.prog 69 [eFormula f, eL (AV.int .i64) o] S R := by
  unfold ref15_Build_W at h
  refine enterT Try.func69 rfl Try.ntmps69 Try.results69 (by kernel_rfl) (fun rg hrg => ?_)
  refine qZ (rZ (wZ rg (o_box (v := eFormula f) rfl rfl (kk := 3) rfl (by decide) (fun g1 => (wZ rg (o_alloc zav25 ok25 (kk := 3) rfl (fun g2 => (nZ (qZ (rZ (wZ rg (o_loadBA (atL (k := 2) rfl) sz68 (by decide) ag68 rfl rfl (v := eFormula f) rfl (wZ rg (o_call (us := [eFormula f]) rfl (vl' vr (vn)) (ref15_Formula_ctr h fun r h => (mvZ (eL (AV.int .i64) o) rfl ?_))))))))))))))))
  refine wZ rg (o_call (us := [eL AV.bool r, eL (AV.int .i64) o]) rfl (vl' vr (vl' vr (vn))) (ref15_Of_ctr h fun r1 h => (wZ rg (o_storeB (atL (k := 4) rfl) sz25 (by decide) rfl (w := eDiagram r1) rfl rfl rfl (v := eDiagram r1) rfl setL (nZ ?_)))))
  refine Vc.ret' ?_
  refine res_cellA (atL (k := 4) rfl) sz25 (by decide) ag25 rfl rfl (v := eDiagram r1) rfl (res_nil ?_)
  show Gives _ (eDiagram r1) _
  exact gives_out hrg (VW.refl _) (hQ _ h)
end Go.Proofs.Ytllegjdggcmgaaa
