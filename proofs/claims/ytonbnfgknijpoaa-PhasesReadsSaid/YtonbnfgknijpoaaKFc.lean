/- Walks of functions. Conditions: none. -/
import Derived.Test.YtonbnfgknijpoaaWF
import Derived.Test.YtonbnfgknijpoaaGgTy
namespace Go.Proofs.Ytonbnfgknijpoaa
open Go.Gg
set_option maxRecDepth 100000
theorem ref08_Of_ctr {f : GFormula} {values : List Bool} {failed : Int} {arg : Int} {Q : Bool → Prop} {S : St} {R : AV → St → Prop} (h : ref08_Of_W f values failed arg Q) (hQ : ∀ r1, Q r1 → R (AV.bool r1) S) :
    Ctr Try.prog 159 [eFormula f, eL AV.bool values, AV.int .i64 failed, AV.int .i64 arg] S R := by
  unfold ref08_Of_W at h
  refine enterT Try.func159 rfl Try.ntmps159 Try.results159 (by kernel_rfl) (fun rg hrg => ?_)
  refine qZ (rZ (wZ rg (o_box (v := eFormula f) rfl rfl (kk := 3) rfl (by decide) (fun g1 => (asZ (.bool false) rfl (nZ (qZ (qZ (rZ (mvZ (.int .i64 arg) rfl (wZ rg (o_faP td70 rfl rfl (by rw [sz3]; decide) rfl (wZ rg (o_loadB1 (atL (k := 4) rfl) sz3 ag3 rfl rfl (v := .int .i64 f.Vars) rfl (wZ rg (o_lss rfl rfl (nZ ?_)))))))))))))))))
  refine Vc.cond' rfl (fun hb => ?_) (fun hb => ?_)
  · replace h := h.1 hb
    refine qZ (rZ (mvZ (.int .i64 failed) rfl (mvZ (.int .i64 arg) rfl (wZ rg (o_shr rfl rfl h.1 ?_)))))
    replace h := h.2
    refine wZ rg (o_and rfl rfl (wZ rg (o_eql rfl rfl (asZ (.bool ((bits .and .i64 (failed / 2 ^ (Int.toNat arg)) 1) == 1)) rfl (nZ ?_)))))
    refine Vc.ret' ?_
    refine res_tmp (v := .bool ((bits .and .i64 (failed / 2 ^ (Int.toNat arg)) 1) == 1)) rfl (res_nil ?_)
    show Gives _ (.bool ((bits .and .i64 (failed / 2 ^ (Int.toNat arg)) 1) == 1)) _
    exact gives_out hrg (VW.refl _) (hQ _ h)
  replace h := h.2 hb
  refine Vc.skip' ?_
  refine qZ (rZ (mvZ (eL AV.bool values) rfl (mvZ (.int .i64 arg) rfl (wZ rg (o_faP td70 rfl rfl (by rw [sz3]; decide) rfl (wZ rg (o_loadB1 (atL (k := 4) rfl) sz3 ag3 rfl rfl (v := .int .i64 f.Vars) rfl (wZ rg (o_subG rfl rfl h.1 ?_)))))))))
  replace h := h.2
  refine wZ rg (o_idxL td63 sz4 (by decide) (fun _ => rfl) rfl rfl h.1 ?_)
  replace h := h.2
  refine wZ rg (o_loadI1 sz4 ag4 rfl rfl (v := .bool (at' values (arg - f.Vars))) rfl (asZ (.bool (at' values (arg - f.Vars))) rfl (nZ ?_)))
  refine Vc.ret' ?_
  refine res_tmp (v := .bool (at' values (arg - f.Vars))) rfl (res_nil ?_)
  show Gives _ (.bool (at' values (arg - f.Vars))) _
  exact gives_out hrg (VW.refl _) (hQ _ h)
theorem ref08_Of__r1_ctr {f : GFormula} {values : List Bool} {valueso : Nat} {valuesl : Nat} {failed : Int} {arg : Int} {q0 k0 g0 : Nat} {Q : List Bool → Bool → Prop} {S : St} {R : AV → St → Prop} (h : ref08_Of__r1_W f values valueso valuesl failed arg Q) (hQ : ∀ r1 r2, Q r1 r2 → R (AV.bool r2) (stX S [(q0, k0, .arr 1 (List.map AV.bool r1), g0)])) :
    Ctr Try.prog 159 [eFormula f, .sl 1 q0 k0 g0 valueso valuesl, AV.int .i64 failed, AV.int .i64 arg] (stX S [(q0, k0, .arr 1 (List.map AV.bool values), g0)]) R := by
  unfold ref08_Of__r1_W at h
  refine enterT Try.func159 rfl Try.ntmps159 Try.results159 (by kernel_rfl) (fun rg hrg => ?_)
  have hdx : DX [(q0, k0, .arr 1 (List.map AV.bool values), g0)] := dx1
  have hfr := fun X' e => fresh_set (S := S) (rg := rg) (X := [(q0, k0, .arr 1 (List.map AV.bool values), g0)]) (X' := X') e hrg
  have hne0 := fresh_ne hdx hrg 0 rfl
  refine qZ (rZ (wZ rg (o_box (v := eFormula f) rfl rfl (kk := 3) rfl (by decide) (fun g1 => (asZ (.bool false) rfl (nZ (qZ (qZ (rZ (mvZ (.int .i64 arg) rfl (wZ rg (o_faP td70 rfl rfl (by rw [sz3]; decide) rfl (wZ rg (o_loadB1 (atL (k := 4) rfl) sz3 ag3 rfl rfl (v := .int .i64 f.Vars) rfl (wZ rg (o_lss rfl rfl (nZ ?_)))))))))))))))))
  refine Vc.cond' rfl (fun hb => ?_) (fun hb => ?_)
  · replace h := h.1 hb
    refine qZ (rZ (mvZ (.int .i64 failed) rfl (mvZ (.int .i64 arg) rfl (wZ rg (o_shr rfl rfl h.1 ?_)))))
    replace h := h.2
    refine wZ rg (o_and rfl rfl (wZ rg (o_eql rfl rfl (asZ (.bool ((bits .and .i64 (failed / 2 ^ (Int.toNat arg)) 1) == 1)) rfl (nZ ?_)))))
    refine Vc.ret' ?_
    refine res_tmp (v := .bool ((bits .and .i64 (failed / 2 ^ (Int.toNat arg)) 1) == 1)) rfl (res_nil ?_)
    show Gives _ (.bool ((bits .and .i64 (failed / 2 ^ (Int.toNat arg)) 1) == 1)) _
    exact gives_out (hfr _ rfl) (VW.refl _) (hQ _ _ h)
  replace h := h.2 hb
  refine Vc.skip' ?_
  refine qZ (rZ (mvZ (.sl 1 q0 k0 g0 valueso valuesl) rfl (mvZ (.int .i64 arg) rfl (wZ rg (o_faP td70 rfl rfl (by rw [sz3]; decide) rfl (wZ rg (o_loadB1 (atL (k := 4) rfl) sz3 ag3 rfl rfl (v := .int .i64 f.Vars) rfl (wZ rg (o_subG rfl rfl h.1 ?_)))))))))
  replace h := h.2
  refine wZ rg (o_idxRO td63 sz4 (by decide) rfl rfl h.1 ?_)
  have hi := h.1
  replace h := h.2
  refine wZ rg (o_loadR1 (atX hne0 hdx 0 rfl) sz4 ag4 rfl (h.1) rfl (v := .bool (at' values ((valueso : Int) + (arg - f.Vars)))) rfl ?_)
  replace h := h.2
  refine asZ (.bool (at' values ((valueso : Int) + (arg - f.Vars)))) rfl (nZ ?_)
  refine Vc.ret' ?_
  refine res_tmp (v := .bool (at' values ((valueso : Int) + (arg - f.Vars)))) rfl (res_nil ?_)
  show Gives _ (.bool (at' values ((valueso : Int) + (arg - f.Vars)))) _
  exact gives_out (hfr _ rfl) (VW.refl _) (hQ _ _ h)
theorem ref08_Values_ctr {f : GFormula} {failed : Int} {Q : List Bool → Prop} {S : St} {R : AV → St → Prop} (h : ref08_Values_W f failed Q) (hQ : ∀ r1, Q r1 → R (eL AV.bool r1) S) :
    Ctr Try.prog 160 [eFormula f, AV.int .i64 failed] S R := by
  unfold ref08_Values_W at h
  refine enterT Try.func160 rfl Try.ntmps160 Try.results160 (by kernel_rfl) (fun rg hrg => ?_)
  refine qZ (rZ (wZ rg (o_box (v := eFormula f) rfl rfl (kk := 3) rfl (by decide) (fun g1 => (asZ .nil rfl (nZ (qZ (rZ (wZ rg (o_faP td70 rfl rfl (by rw [sz68]; decide) rfl (wZ rg (o_loadB1 (atL (k := 2) rfl) sz68 ag68 rfl rfl (v := eL eNode f.Nodes) rfl (wZ rg (o_len td68 rfl (wZ rg (o_make td63 bts4 ok4 (enc := AV.bool) (z' := false) zav4 (kk := 1) rfl rfl rfl h.1 (fun g2 => ?_)))))))))))))))))
  replace h := h.2
  refine asZ (.sl 1 rg 14 g2 0 (Int.toNat (f.Nodes.length : Int))) rfl (nZ (qZ (qZ (rZ (wZ rg (o_faP td70 rfl rfl (by rw [sz68]; decide) rfl (wZ rg (o_loadB1 (atL (k := 2) rfl) sz68 ag68 rfl rfl (v := eL eNode f.Nodes) rfl (wZ rg (o_len td68 rfl (mvZ (.int .i64 0) rfl (nZ ?_))))))))))))
  refine Vc.blk ?_
  obtain ⟨I, μ, h0, hI⟩ := h
  refine Vc.loop' (σ := (Int × (List Bool))) (fun y => I y) (fun y => μ y) (fun y => envOf [(1, .int .i64 failed), (2, .ptr rg 2 g1 0 0), (5, .sl 1 rg 14 g2 0 y.2.length), (16, eL eNode f.Nodes), (17, .int .i64 (f.Nodes.length : Int)), (18, .int .i64 y.1)]) (fun y => stL S rg [(2, .arr 3 [eFormula f], g1), (14, .arr 1 (List.map AV.bool y.2), g2)]) (0, (rep' (f.Nodes.length : Int) false)) (canon (fc vr (fc vr (fc (VW.slen (by first | rfl | omega | (simp only [go_sem] <;> omega))) (fc vr (fc vr (fc vr (fn))))))) (sc rfl (sc rfl (sn)))) h0 (fun y h => ?_)
  obtain ⟨x, values⟩ := y
  replace h := hI (x, values) h
  show Vc _ _ _ _ (envOf [(1, .int .i64 failed), (2, .ptr rg 2 g1 0 0), (5, .sl 1 rg 14 g2 0 values.length), (16, eL eNode f.Nodes), (17, .int .i64 (f.Nodes.length : Int)), (18, .int .i64 x)]) (stL S rg [(2, .arr 3 [eFormula f], g1), (14, .arr 1 (List.map AV.bool values), g2)])
  refine qZ (rZ (wZ rg (o_lss rfl rfl (nZ (qZ ?_)))))
  refine Vc.cond' rfl (fun hb => ?_) (fun hb => ?_)
  · replace h := h.1 hb
    refine Vc.skip' ?_
    refine qZ ?_
    refine Vc.blk ?_
    refine qZ (rZ (mvZ (.int .i64 x) rfl (wZ rg (o_idxL td68 sz78 (by decide) (fun _ => rfl) rfl rfl h.1 ?_))))
    replace h := h.2
    refine wZ rg (o_loadIA sz78 (by decide) ag78 rfl rfl (v := eNode (at' f.Nodes x)) rfl (wZ rg (o_alloc zav78 ok78 (kk := 3) rfl (fun g3 => (asZ (.int .i64 x) rfl (wZ rg (o_storeB (atL (k := 7) rfl) sz78 (by decide) rfl (w := eNode (at' f.Nodes x)) rfl rfl rfl (v := eNode (at' f.Nodes x)) rfl setL (nZ (qZ (rZ (asZ (.int .i64 0) rfl (nZ (qZ (qZ (rZ ?_)))))))))))))))
    refine wZ rg (o_faP td78 rfl rfl (by rw [sz76]; decide) rfl (wZ rg (o_loadB1 (atL (k := 7) rfl) sz76 ag76 rfl rfl (v := eL (AV.int .i64) ((at' f.Nodes x).Args)) rfl (wZ rg (o_len td76 rfl (mvZ (.int .i64 0) rfl (nZ ?_)))))))
    refine Vc.blk ?_
    obtain ⟨I, μ, h0, hI⟩ := h
    refine Vc.loop' (σ := (Int × Int × (List Bool))) (fun y => I y) (fun y => μ y) (fun y => envOf [(1, .int .i64 failed), (2, .ptr rg 2 g1 0 0), (5, .sl 1 rg 14 g2 0 y.2.2.length), (6, .int .i64 x), (7, .ptr rg 7 g3 0 0), (8, .int .i64 y.1), (16, eL eNode f.Nodes), (17, .int .i64 (f.Nodes.length : Int)), (18, .int .i64 x), (24, eL (AV.int .i64) ((at' f.Nodes x).Args)), (25, .int .i64 (((at' f.Nodes x).Args).length : Int)), (26, .int .i64 y.2.1)]) (fun y => stL S rg [(2, .arr 3 [eFormula f], g1), (7, .arr 3 [eNode (at' f.Nodes x)], g3), (14, .arr 1 (List.map AV.bool y.2.2), g2)]) (0, 0, values) (canon (fc vr (fc vr (fc vr (fc vr (fc vr (fc vr (fc vr (fc vr (fc vr (fc vr (fc vr (fc vr (fn))))))))))))) (sc rfl (sc rfl (sc rfl (sn))))) h0 (fun y h => ?_)
    obtain ⟨n, x1, values1⟩ := y
    replace h := hI (n, x1, values1) h
    show Vc _ _ _ _ (envOf [(1, .int .i64 failed), (2, .ptr rg 2 g1 0 0), (5, .sl 1 rg 14 g2 0 values1.length), (6, .int .i64 x), (7, .ptr rg 7 g3 0 0), (8, .int .i64 n), (16, eL eNode f.Nodes), (17, .int .i64 (f.Nodes.length : Int)), (18, .int .i64 x), (24, eL (AV.int .i64) ((at' f.Nodes x).Args)), (25, .int .i64 (((at' f.Nodes x).Args).length : Int)), (26, .int .i64 x1)]) (stL S rg [(2, .arr 3 [eFormula f], g1), (7, .arr 3 [eNode (at' f.Nodes x)], g3), (14, .arr 1 (List.map AV.bool values1), g2)])
    refine qZ (rZ (wZ rg (o_lss rfl rfl (nZ (qZ ?_)))))
    refine Vc.cond' rfl (fun hb1 => ?_) (fun hb1 => ?_)
    · replace h := h.1 hb1
      refine Vc.skip' ?_
      refine qZ ?_
      refine Vc.blk ?_
      refine qZ (rZ (wZ rg (o_idxL td76 sz3 (by decide) (fun _ => rfl) rfl rfl h.1 ?_)))
      replace h := h.2
      refine wZ rg (o_loadI1 sz3 ag3 rfl rfl (v := .int .i64 (at' ((at' f.Nodes x).Args) x1)) rfl (asZ (.int .i64 (at' ((at' f.Nodes x).Args) x1)) rfl (nZ (qZ (rZ (wZ rg (o_loadBA (atL (k := 2) rfl) sz70 (by decide) ag70 rfl rfl (v := eFormula f) rfl (mvZ (.sl 1 rg 14 g2 0 values1.length) rfl (mvZ (.int .i64 failed) rfl (mvZ (.int .i64 (at' ((at' f.Nodes x).Args) x1)) rfl ?_))))))))))
      refine wZ rg (o_call (us := [eFormula f, .sl 1 rg 14 g2 0 values1.length, AV.int .i64 failed, AV.int .i64 (at' ((at' f.Nodes x).Args) x1)]) rfl (vl' vr (vl' vr (vl' vr (vl' vr (vn))))) (ctrX (stX_same1 (atL (k := 14) rfl)) (ref08_Of__r1_ctr h fun values2 r h => ?_)))
      refine Wl.eqS setL ?_
      have hl := h.1
      replace h := h.2
      refine nZ ?_
      refine Vc.cond' rfl (fun hb2 => ?_) (fun hb2 => ?_)
      · replace h := h.1 hb2
        refine rZ ?_
        refine mvZ (.int .i64 n) rfl (wZ rg (o_addG rfl rfl h.1 ?_))
        replace h := h.2
        refine asZ (.int .i64 (n + 1)) rfl (nZ (rZ (wZ rg (o_addG rfl rfl h.1 ?_))))
        replace h := h.2
        refine mvZ (.int .i64 (x1 + 1)) rfl (nZ ?_)
        exact ⟨((n + 1), (x1 + 1), values2), (canon (fc vr (fc vr (fc (VW.slen (by first | rfl | omega | (simp only [go_sem] <;> omega))) (fc vr (fc vr (fc vr (fc vr (fc vr (fc vr (fc vr (fc vr (fc vr (fn))))))))))))) (sc rfl (sc rfl (sc rfl (sn))))), h⟩
      replace h := h.2 hb2
      refine Vc.skip' ?_
      refine rZ ?_
      refine wZ rg (o_addG rfl rfl h.1 ?_)
      replace h := h.2
      refine mvZ (.int .i64 (x1 + 1)) rfl (nZ ?_)
      exact ⟨(n, (x1 + 1), values2), (canon (fc vr (fc vr (fc (VW.slen (by first | rfl | omega | (simp only [go_sem] <;> omega))) (fc vr (fc vr (fc vr (fc vr (fc vr (fc vr (fc vr (fc vr (fc vr (fn))))))))))))) (sc rfl (sc rfl (sc rfl (sn))))), h⟩
    replace h := h.2 hb1
    refine Vc.exit' (exB_self ?_)
    refine qZ (rZ (wZ rg (o_faP td78 rfl rfl (by rw [sz3]; decide) rfl (wZ rg (o_loadB1 (atL (k := 7) rfl) sz3 ag3 rfl rfl (v := .int .i64 ((at' f.Nodes x).Kind)) rfl (nZ ?_))))))
    refine Vc.blk ?_
    refine qZ (rZ (wZ rg (o_eql rfl rfl (asZ (.bool ((at' f.Nodes x).Kind == 0)) rfl (nZ ?_)))))
    refine Vc.cond' rfl (fun hb3 => ?_) (fun hb3 => ?_)
    · replace h := h.1 hb3
      refine rZ ?_
      refine mvZ (.sl 1 rg 14 g2 0 values1.length) rfl (mvZ (.int .i64 x) rfl (wZ rg (o_faP td78 rfl rfl (by rw [sz3]; decide) rfl (wZ rg (o_loadB1 (atL (k := 7) rfl) sz3 ag3 rfl rfl (v := .int .i64 ((at' f.Nodes x).K)) rfl (wZ rg (o_eql rfl rfl (wZ rg (o_idxR0 td63 sz4 (by decide) rfl rfl h.1 ?_)))))))))
      have hi := h.1
      replace h := h.2
      refine wZ rg (o_storeR1 (atL (k := 14) rfl) sz4 (by decide) (x' := ((at' f.Nodes x).K == 1)) (fun _ => rfl) rfl rfl (lt_of hi (by first | rfl | omega | (simp only [go_sem] <;> omega))) rfl rfl setL (nZ (rZ (wZ rg (o_addG rfl rfl h.1 ?_)))))
      replace h := h.2
      refine mvZ (.int .i64 (x + 1)) rfl (nZ ?_)
      exact ⟨((x + 1), (set' values1 x ((at' f.Nodes x).K == 1))), (canon (fc vr (fc vr (fc (VW.slen (by first | rfl | omega | (simp only [go_sem] <;> omega))) (fc vr (fc vr (fc vr (fn))))))) (sc rfl (sc rfl (sn)))), h⟩
    replace h := h.2 hb3
    refine qZ (rZ (wZ rg (o_eql rfl rfl (asZ (.bool ((at' f.Nodes x).Kind == 1)) rfl (nZ ?_)))))
    refine Vc.cond' rfl (fun hb4 => ?_) (fun hb4 => ?_)
    · replace h := h.1 hb4
      refine rZ ?_
      refine mvZ (.sl 1 rg 14 g2 0 values1.length) rfl (mvZ (.int .i64 x) rfl (mvZ (.int .i64 n) rfl (wZ rg (o_eql rfl rfl (wZ rg (o_idxR0 td63 sz4 (by decide) rfl rfl h.1 ?_))))))
      have hi1 := h.1
      replace h := h.2
      refine wZ rg (o_storeR1 (atL (k := 14) rfl) sz4 (by decide) (x' := (n == 0)) (fun _ => rfl) rfl rfl (lt_of hi1 (by first | rfl | omega | (simp only [go_sem] <;> omega))) rfl rfl setL (nZ (rZ (wZ rg (o_addG rfl rfl h.1 ?_)))))
      replace h := h.2
      refine mvZ (.int .i64 (x + 1)) rfl (nZ ?_)
      exact ⟨((x + 1), (set' values1 x (n == 0))), (canon (fc vr (fc vr (fc (VW.slen (by first | rfl | omega | (simp only [go_sem] <;> omega))) (fc vr (fc vr (fc vr (fn))))))) (sc rfl (sc rfl (sn)))), h⟩
    replace h := h.2 hb4
    refine qZ (rZ (wZ rg (o_eql rfl rfl (asZ (.bool ((at' f.Nodes x).Kind == 2)) rfl (nZ ?_)))))
    refine Vc.cond' rfl (fun hb5 => ?_) (fun hb5 => ?_)
    · replace h := h.1 hb5
      refine rZ ?_
      refine mvZ (.sl 1 rg 14 g2 0 values1.length) rfl (mvZ (.int .i64 x) rfl (mvZ (.int .i64 n) rfl (wZ rg (o_faP td78 rfl rfl (by rw [sz76]; decide) rfl (wZ rg (o_loadB1 (atL (k := 7) rfl) sz76 ag76 rfl rfl (v := eL (AV.int .i64) ((at' f.Nodes x).Args)) rfl (wZ rg (o_len td76 rfl (wZ rg (o_eql rfl rfl (wZ rg (o_idxR0 td63 sz4 (by decide) rfl rfl h.1 ?_))))))))))))
      have hi2 := h.1
      replace h := h.2
      refine wZ rg (o_storeR1 (atL (k := 14) rfl) sz4 (by decide) (x' := (n == (((at' f.Nodes x).Args).length : Int))) (fun _ => rfl) rfl rfl (lt_of hi2 (by first | rfl | omega | (simp only [go_sem] <;> omega))) rfl rfl setL (nZ (rZ (wZ rg (o_addG rfl rfl h.1 ?_)))))
      replace h := h.2
      refine mvZ (.int .i64 (x + 1)) rfl (nZ ?_)
      exact ⟨((x + 1), (set' values1 x (n == (((at' f.Nodes x).Args).length : Int)))), (canon (fc vr (fc vr (fc (VW.slen (by first | rfl | omega | (simp only [go_sem] <;> omega))) (fc vr (fc vr (fc vr (fn))))))) (sc rfl (sc rfl (sn)))), h⟩
    replace h := h.2 hb5
    refine qZ (rZ (wZ rg (o_eql rfl rfl (asZ (.bool ((at' f.Nodes x).Kind == 3)) rfl (nZ ?_)))))
    refine Vc.cond' rfl (fun hb6 => ?_) (fun hb6 => ?_)
    · replace h := h.1 hb6
      refine rZ ?_
      refine mvZ (.sl 1 rg 14 g2 0 values1.length) rfl (mvZ (.int .i64 x) rfl (mvZ (.int .i64 n) rfl (wZ rg (o_gtr rfl rfl (wZ rg (o_idxR0 td63 sz4 (by decide) rfl rfl h.1 ?_))))))
      have hi3 := h.1
      replace h := h.2
      refine wZ rg (o_storeR1 (atL (k := 14) rfl) sz4 (by decide) (x' := (decide (0 < n))) (fun _ => rfl) rfl rfl (lt_of hi3 (by first | rfl | omega | (simp only [go_sem] <;> omega))) rfl rfl setL (nZ (rZ (wZ rg (o_addG rfl rfl h.1 ?_)))))
      replace h := h.2
      refine mvZ (.int .i64 (x + 1)) rfl (nZ ?_)
      exact ⟨((x + 1), (set' values1 x (decide (0 < n)))), (canon (fc vr (fc vr (fc (VW.slen (by first | rfl | omega | (simp only [go_sem] <;> omega))) (fc vr (fc vr (fc vr (fn))))))) (sc rfl (sc rfl (sn)))), h⟩
    replace h := h.2 hb6
    refine qZ (rZ (wZ rg (o_eql rfl rfl (asZ (.bool ((at' f.Nodes x).Kind == 4)) rfl (nZ ?_)))))
    refine Vc.cond' rfl (fun hb7 => ?_) (fun hb7 => ?_)
    · replace h := h.1 hb7
      refine rZ ?_
      refine mvZ (.sl 1 rg 14 g2 0 values1.length) rfl (mvZ (.int .i64 x) rfl (mvZ (.int .i64 n) rfl (wZ rg (o_faP td78 rfl rfl (by rw [sz3]; decide) rfl (wZ rg (o_loadB1 (atL (k := 7) rfl) sz3 ag3 rfl rfl (v := .int .i64 ((at' f.Nodes x).K)) rfl (wZ rg (o_geq rfl rfl (wZ rg (o_idxR0 td63 sz4 (by decide) rfl rfl h.1 ?_))))))))))
      have hi4 := h.1
      replace h := h.2
      refine wZ rg (o_storeR1 (atL (k := 14) rfl) sz4 (by decide) (x' := (decide ((at' f.Nodes x).K ≤ n))) (fun _ => rfl) rfl rfl (lt_of hi4 (by first | rfl | omega | (simp only [go_sem] <;> omega))) rfl rfl setL (nZ (rZ (wZ rg (o_addG rfl rfl h.1 ?_)))))
      replace h := h.2
      refine mvZ (.int .i64 (x + 1)) rfl (nZ ?_)
      exact ⟨((x + 1), (set' values1 x (decide ((at' f.Nodes x).K ≤ n)))), (canon (fc vr (fc vr (fc (VW.slen (by first | rfl | omega | (simp only [go_sem] <;> omega))) (fc vr (fc vr (fc vr (fn))))))) (sc rfl (sc rfl (sn)))), h⟩
    replace h := h.2 hb7
    refine rZ ?_
    refine mvZ (.sl 1 rg 14 g2 0 values1.length) rfl (mvZ (.int .i64 x) rfl (mvZ (.int .i64 n) rfl (wZ rg (o_rem rfl rfl (by decide) (wZ rg (o_eql rfl rfl (wZ rg (o_idxR0 td63 sz4 (by decide) rfl rfl h.1 ?_))))))))
    have hi5 := h.1
    replace h := h.2
    refine wZ rg (o_storeR1 (atL (k := 14) rfl) sz4 (by decide) (x' := ((Int.tmod n 2) == 1)) (fun _ => rfl) rfl rfl (lt_of hi5 (by first | rfl | omega | (simp only [go_sem] <;> omega))) rfl rfl setL (nZ (rZ (wZ rg (o_addG rfl rfl h.1 ?_)))))
    replace h := h.2
    refine mvZ (.int .i64 (x + 1)) rfl (nZ ?_)
    exact ⟨((x + 1), (set' values1 x ((Int.tmod n 2) == 1))), (canon (fc vr (fc vr (fc (VW.slen (by first | rfl | omega | (simp only [go_sem] <;> omega))) (fc vr (fc vr (fc vr (fn))))))) (sc rfl (sc rfl (sn)))), h⟩
  replace h := h.2 hb
  refine Vc.exit' (exB_self ?_)
  refine qZ (rZ (mvZ (.sl 1 rg 14 g2 0 values.length) rfl (asZ (.sl 1 rg 14 g2 0 values.length) rfl (nZ ?_))))
  refine Vc.ret' ?_
  refine res_tmp (v := .sl 1 rg 14 g2 0 values.length) rfl (res_nil ?_)
  show Gives _ (.sl 1 rg 14 g2 0 values.length) _
  refine gives_freeze (k := 14) (xs := List.map AV.bool values) rfl (v' := eL AV.bool values) (frz_full rfl) ?_
  exact gives_out hrg (VW.refl _) (hQ _ h)
theorem ref08_Value_ctr {f : GFormula} {failed : Int} {Q : Bool → Prop} {S : St} {R : AV → St → Prop} (h : ref08_Value_W f failed Q) (hQ : ∀ r1, Q r1 → R (AV.bool r1) S) :
    Ctr Try.prog 119 [eFormula f, AV.int .i64 failed] S R := by
  unfold ref08_Value_W at h
  refine enterT Try.func119 rfl Try.ntmps119 Try.results119 (by kernel_rfl) (fun rg hrg => ?_)
  refine qZ (rZ (wZ rg (o_box (v := eFormula f) rfl rfl (kk := 3) rfl (by decide) (fun g1 => (asZ (.bool false) rfl (nZ (qZ ?_)))))))
  obtain ⟨r, hc, h⟩ := h
  obtain ⟨r1, hc1, h⟩ := h
  refine Vc.drawn' mixed rg (usOf [(3, pc (eL AV.bool r)), (7, pc (.bool r1))]) (by kernel_rfl) ?_
  refine dL (E := ([(rg, 2)], [])) rfl rfl (by simp) (cfn) (o_loadBA (atL (k := 2) rfl) sz70 (by decide) ag70 rfl rfl (v := eFormula f) rfl (dL (E := ([(rg, 2)], [])) rfl rfl (by simp) (cfa (by simp [apartE]) (cfn)) (o_loadBA (atL (k := 2) rfl) sz70 (by decide) ag70 rfl rfl (v := eFormula f) rfl (dP rfl rfl (o_move (v := .int .i64 failed) rfl ?_)))))
  refine dC (vs := [eFormula f, AV.int .i64 failed]) rfl (vl' vr (vl' vr (vn))) (fun _ => ref08_Values_ctr hc (fun _ hr => ⟨by rw [hr], rfl⟩)) rfl ?_
  refine dP rfl rfl (o_move (v := .int .i64 failed) rfl (dP rfl rfl (o_faP td70 rfl rfl (by rw [sz3]; decide) rfl (dL (E := ([(rg, 2)], [])) rfl rfl (by simp) (cfa (by simp [apartE]) (cfa (by simp [apartE]) (cfn))) (o_loadB1 (atL (k := 2) rfl) sz3 ag3 rfl rfl (v := .int .i64 f.Top) rfl ?_)))))
  refine dC (vs := [eFormula f, eL AV.bool r, AV.int .i64 failed, AV.int .i64 f.Top]) rfl (vl' vr (vl' vr (vl' vr (vl' vr (vn))))) (fun _ => ref08_Of_ctr hc1 (fun _ hr => ⟨by rw [hr], rfl⟩)) rfl ?_
  refine dP rfl rfl (o_assign (v := .bool r1) rfl (dN ?_))
  refine Vc.ret' ?_
  refine res_tmp (v := .bool r1) rfl (res_nil ?_)
  show Gives _ (.bool r1) _
  exact gives_out hrg (VW.refl _) (hQ _ h)
end Go.Proofs.Ytonbnfgknijpoaa
