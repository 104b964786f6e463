/- Walks of functions. Conditions: none. -/
import Derived.Test.YtonbnfgknijpoaaWPcommon
import Derived.Test.YtonbnfgknijpoaaGgTy
import Derived.Test.YtonbnfgknijpoaaKB
namespace Go.Proofs.Ytonbnfgknijpoaa
open Go.Gg
set_option maxRecDepth 100000
theorem common_probs_1_ctr {x : GRat} {Q : Bool → Prop} {S : St} {R : AV → St → Prop} (h : common_probs_1_W x Q) (hQ : ∀ r1, Q r1 → R (AV.bool r1) S) :
    Ctr Try.prog 148 [eRat x] S R := by
  unfold common_probs_1_W at h
  refine enterT Try.func148 rfl Try.ntmps148 Try.results148 (by kernel_rfl) (fun rg hrg => ?_)
  refine qZ (rZ ?_)
  refine wZ rg (o_box (v := eRat x) rfl rfl (kk := 3) rfl (by decide) (fun g1 => ?_))
  refine asZ (.bool false) rfl ?_
  refine nZ (qZ (rZ ?_))
  refine wZ rg (o_loadBA (atL (k := 1) rfl) sz27 (by decide) ag27 rfl rfl (v := eRat x) rfl ?_)
  refine wZ rg (o_call (us := [eRat x]) rfl (vl' vr (vn)) (rational_Prob_ctr h fun r h => ?_))
  refine wZ rg (o_not rfl ?_)
  refine asZ (.bool (!r)) rfl ?_
  refine nZ ?_
  refine Vc.ret' ?_
  refine res_tmp (v := .bool (!r)) rfl ?_
  refine res_nil ?_
  show Gives _ (.bool (!r)) _
  exact gives_out hrg (VW.refl _) (hQ _ h)
theorem slices_IndexFunc___api_Rat_api_Rat__common_probs_1_ctr {s : List GRat} {Q : Int → Prop} {S : St} {R : AV → St → Prop} (h : slices_IndexFunc___api_Rat_api_Rat__common_probs_1_W s Q) (hQ : ∀ r1, Q r1 → R (AV.int .i64 r1) S) :
    Ctr Try.prog 161 [eL eRat s, .fn (.func 148) [] []] S R := by
  unfold slices_IndexFunc___api_Rat_api_Rat__common_probs_1_W at h
  refine enterT Try.func161 rfl Try.ntmps161 Try.results161 (by kernel_rfl) (fun rg hrg => ?_)
  refine qZ (rZ ?_)
  refine asZ (.int .i64 0) rfl ?_
  refine nZ (qZ (qZ (rZ ?_)))
  refine mvZ (eL eRat s) rfl ?_
  refine wZ rg (o_len td22 rfl ?_)
  refine mvZ (.int .i64 0) rfl ?_
  refine nZ ?_
  refine Vc.blk ?_
  obtain ⟨I, μ, h0, hI⟩ := h
  refine Vc.loop' (σ := (Int)) (fun y => I y) (fun y => μ y) (fun y => envOf [(0, eL eRat s), (1, .fn (.func 148) [] []), (7, .int .i64 (s.length : Int)), (8, .int .i64 y)]) (fun y => stL S rg []) 0 (canon (fc vr (fc vr (fc vr (fc vr (fn))))) (sn)) h0 (fun x h => ?_)
  replace h := hI x h
  show Vc _ _ _ _ (envOf [(0, eL eRat s), (1, .fn (.func 148) [] []), (7, .int .i64 (s.length : Int)), (8, .int .i64 x)]) (stL S rg [])
  refine qZ (rZ ?_)
  refine wZ rg (o_lss rfl rfl ?_)
  refine nZ (qZ ?_)
  refine Vc.cond' rfl (fun hb => ?_) (fun hb => ?_)
  · replace h := h.1 hb
    refine Vc.skip' ?_
    refine qZ ?_
    refine Vc.blk ?_
    refine qZ (rZ ?_)
    refine mvZ (.int .i64 x) rfl ?_
    refine asZ (.int .i64 x) rfl ?_
    refine nZ (qZ (rZ ?_))
    refine mvZ (.fn (.func 148) [] []) rfl ?_
    refine mvZ (eL eRat s) rfl ?_
    refine mvZ (.int .i64 x) rfl ?_
    refine wZ rg (o_idxL td22 sz27 (by decide) (fun _ => rfl) rfl rfl h.1 ?_)
    replace h := h.2
    refine wZ rg (o_loadIA sz27 (by decide) ag27 rfl rfl (v := eRat (at' s x)) rfl ?_)
    refine wZ rg (o_call (us := [eRat (at' s x)]) rfl (vl' vr (vn)) (common_probs_1_ctr h fun r h => ?_))
    refine nZ ?_
    refine Vc.cond' rfl (fun hb1 => ?_) (fun hb1 => ?_)
    · replace h := h.1 hb1
      refine qZ (rZ ?_)
      refine mvZ (.int .i64 x) rfl ?_
      refine asZ (.int .i64 x) rfl ?_
      refine nZ ?_
      refine Vc.ret' ?_
      refine res_tmp (v := .int .i64 x) rfl ?_
      refine res_nil ?_
      show Gives _ (.int .i64 x) _
      exact gives_out hrg (VW.refl _) (hQ _ h)
    replace h := h.2 hb1
    refine Vc.skip' ?_
    refine rZ ?_
    refine wZ rg (o_addG rfl rfl h.1 ?_)
    replace h := h.2
    refine mvZ (.int .i64 (x + 1)) rfl ?_
    refine nZ ?_
    exact ⟨(x + 1), (canon (fc vr (fc vr (fc vr (fc vr (fn))))) (sn)), h⟩
  replace h := h.2 hb
  refine Vc.exit' (exB_self ?_)
  refine qZ (rZ ?_)
  refine asZ (.int .i64 (-1)) rfl ?_
  refine nZ ?_
  refine Vc.ret' ?_
  refine res_tmp (v := .int .i64 (-1)) rfl ?_
  refine res_nil ?_
  show Gives _ (.int .i64 (-1)) _
  exact gives_out hrg (VW.refl _) (hQ _ h)
theorem slices_ContainsFunc___api_Rat_api_Rat__common_probs_1_ctr {s : List GRat} {Q : Bool → Prop} {S : St} {R : AV → St → Prop} (h : slices_ContainsFunc___api_Rat_api_Rat__common_probs_1_W s Q) (hQ : ∀ r1, Q r1 → R (AV.bool r1) S) :
    Ctr Try.prog 125 [eL eRat s, .fn (.func 148) [] []] S R := by
  unfold slices_ContainsFunc___api_Rat_api_Rat__common_probs_1_W at h
  refine enterT Try.func125 rfl Try.ntmps125 Try.results125 (by kernel_rfl) (fun rg hrg => ?_)
  refine qZ (rZ ?_)
  refine asZ (.bool false) rfl ?_
  refine nZ (qZ (rZ ?_))
  refine mvZ (eL eRat s) rfl ?_
  refine mvZ (.fn (.func 148) [] []) rfl ?_
  refine wZ rg (o_call (us := [eL eRat s, .fn (.func 148) [] []]) rfl (vl' vr (vl' vr (vn))) (slices_IndexFunc___api_Rat_api_Rat__common_probs_1_ctr h fun r h => ?_))
  refine wZ rg (o_geq rfl rfl ?_)
  refine asZ (.bool (decide (0 ≤ r))) rfl ?_
  refine nZ ?_
  refine Vc.ret' ?_
  refine res_tmp (v := .bool (decide (0 ≤ r))) rfl ?_
  refine res_nil ?_
  show Gives _ (.bool (decide (0 ≤ r))) _
  exact gives_out hrg (VW.refl _) (hQ _ h)
theorem common_probs_ctr {l : List GRat} {Q : Bool → Prop} {S : St} {R : AV → St → Prop} (h : common_probs_W l Q) (hQ : ∀ r1, Q r1 → R (AV.bool r1) S) :
    Ctr Try.prog 96 [eL eRat l] S R := by
  unfold common_probs_W at h
  refine enterT Try.func96 rfl Try.ntmps96 Try.results96 (by kernel_rfl) (fun rg hrg => ?_)
  refine qZ (rZ ?_)
  refine asZ (.bool false) rfl ?_
  refine nZ (qZ (rZ ?_))
  refine mvZ (eL eRat l) rfl ?_
  refine wZ rg (o_call (us := [eL eRat l, .fn (.func 148) [] []]) rfl (vl' vr (vl' vr (vn))) (slices_ContainsFunc___api_Rat_api_Rat__common_probs_1_ctr h fun r h => ?_))
  refine wZ rg (o_not rfl ?_)
  refine asZ (.bool (!r)) rfl ?_
  refine nZ ?_
  refine Vc.ret' ?_
  refine res_tmp (v := .bool (!r)) rfl ?_
  refine res_nil ?_
  show Gives _ (.bool (!r)) _
  exact gives_out hrg (VW.refl _) (hQ _ h)
theorem common_choose_ctr {n : Int} {k1 : Int} {Q : Int → Prop} {S : St} {R : AV → St → Prop} (h : common_choose_W n k1 Q) (hQ : ∀ r1, Q r1 → R (AV.int .i64 r1) S) :
    Ctr Try.prog 97 [AV.int .i64 n, AV.int .i64 k1] S R := by
  unfold common_choose_W at h
  refine enterT Try.func97 rfl Try.ntmps97 Try.results97 (by kernel_rfl) (fun rg hrg => ?_)
  refine qZ (rZ ?_)
  refine asZ (.int .i64 0) rfl ?_
  refine nZ (qZ (rZ ?_))
  refine asZ (.int .i64 1) rfl ?_
  refine nZ (qZ (qZ (rZ ?_)))
  refine mvZ (.int .i64 k1) rfl ?_
  refine mvZ (.int .i64 0) rfl ?_
  refine nZ ?_
  refine Vc.blk ?_
  obtain ⟨I, μ, h0, hI⟩ := h
  refine Vc.loop' (σ := (Int × Int)) (fun y => I y) (fun y => μ y) (fun y => envOf [(0, .int .i64 n), (5, .int .i64 y.1), (7, .int .i64 k1), (8, .int .i64 y.2)]) (fun y => stL S rg []) (1, 0) (canon (fc vr (fc vr (fc vr (fc vr (fn))))) (sn)) h0 (fun y h => ?_)
  obtain ⟨out, x⟩ := y
  replace h := hI (out, x) h
  show Vc _ _ _ _ (envOf [(0, .int .i64 n), (5, .int .i64 out), (7, .int .i64 k1), (8, .int .i64 x)]) (stL S rg [])
  refine qZ (rZ ?_)
  refine wZ rg (o_lss rfl rfl ?_)
  refine nZ (qZ ?_)
  refine Vc.cond' rfl (fun hb => ?_) (fun hb => ?_)
  · replace h := h.1 hb
    refine Vc.skip' ?_
    refine qZ ?_
    refine Vc.blk ?_
    refine qZ (rZ ?_)
    refine mvZ (.int .i64 x) rfl ?_
    refine asZ (.int .i64 x) rfl ?_
    refine nZ (rZ ?_)
    refine mvZ (.int .i64 out) rfl ?_
    refine mvZ (.int .i64 n) rfl ?_
    refine mvZ (.int .i64 x) rfl ?_
    refine wZ rg (o_subG rfl rfl h.1 ?_)
    replace h := h.2
    refine wZ rg (o_mulG rfl rfl h.1 ?_)
    replace h := h.2
    refine mvZ (.int .i64 x) rfl ?_
    refine wZ rg (o_addG rfl rfl h.1 ?_)
    replace h := h.2
    refine wZ rg (o_quoG rfl rfl h.1 ?_)
    replace h := h.2
    refine asZ (.int .i64 (Int.tdiv (out * (n - x)) (x + 1))) rfl ?_
    refine nZ (rZ ?_)
    refine wZ rg (o_addG rfl rfl h.1 ?_)
    replace h := h.2
    refine mvZ (.int .i64 (x + 1)) rfl ?_
    refine nZ ?_
    exact ⟨((Int.tdiv (out * (n - x)) (x + 1)), (x + 1)), (canon (fc vr (fc vr (fc vr (fc vr (fn))))) (sn)), h⟩
  replace h := h.2 hb
  refine Vc.exit' (exB_self ?_)
  refine qZ (rZ ?_)
  refine mvZ (.int .i64 out) rfl ?_
  refine asZ (.int .i64 out) rfl ?_
  refine nZ ?_
  refine Vc.ret' ?_
  refine res_tmp (v := .int .i64 out) rfl ?_
  refine res_nil ?_
  show Gives _ (.int .i64 out) _
  exact gives_out hrg (VW.refl _) (hQ _ h)
theorem common_Greek_ctr {p : GRat} {factors : List GRat} {Q : List GRat → Option Int → Prop} {S : St} {R : AV → St → Prop} (h : common_Greek_W p factors Q) (hQ : ∀ r1 r2, Q r1 r2 → R (.tuple [eL eRat r1, eErr 107 r2]) S) :
    Ctr Try.prog 32 [eRat p, eL eRat factors] S R := by
  unfold common_Greek_W at h
  refine enterT Try.func32 rfl Try.ntmps32 Try.results32 (by kernel_rfl) (fun rg hrg => ?_)
  refine qZ (rZ ?_)
  refine wZ rg (o_box (v := eRat p) rfl rfl (kk := 3) rfl (by decide) (fun g1 => ?_))
  refine asZ .nil rfl ?_
  refine asZ .niface rfl ?_
  refine nZ (qZ ?_)
  obtain ⟨J, h, hJ⟩ := h
  refine Vc.join' (σ := ((Bool) × (Nat))) (fun y => J y.1) (fun y => envOf [(1, eL eRat factors), (2, .ptr rg 2 y.2 0 0), (21, .bool y.1)]) (fun y => stL S rg [(2, .arr 3 [eRat p], y.2)]) (fun y h => ?_) ?_
  · obtain ⟨x, g2⟩ := y
    replace h := hJ x h
    show Vc _ _ _ _ (envOf [(1, eL eRat factors), (2, .ptr rg 2 g2 0 0), (21, .bool x)]) (stL S rg [(2, .arr 3 [eRat p], g2)])
    refine Vc.cond' rfl (fun hb => ?_) (fun hb => ?_)
    · replace h := h.1 hb
      refine qZ (rZ ?_)
      refine wZ rg (o_iface (by rw [td107]; trivial) (v := .int .i64 3) rfl ?_)
      refine asZ .nil rfl ?_
      refine asZ (.iface 107 (.int .i64 3)) rfl ?_
      refine nZ ?_
      refine Vc.ret' ?_
      refine res_tmp (v := .nil) rfl ?_
      refine res_tmp (v := .iface 107 (.int .i64 3)) rfl ?_
      refine res_nil ?_
      show Gives _ (.tuple [.nil, .iface 107 (.int .i64 3)]) _
      exact gives_out hrg (VW.tupL (vl' (VW.nilL) (vl' vr (vn)))) (hQ _ _ h)
    replace h := h.2 hb
    refine Vc.skip' ?_
    refine qZ ?_
    obtain ⟨J, h, hJ⟩ := h
    refine Vc.join' (σ := ((Bool) × (Nat))) (fun y => J y.1) (fun y => envOf [(1, eL eRat factors), (2, .ptr rg 2 y.2 0 0), (30, .bool y.1)]) (fun y => stL S rg [(2, .arr 3 [eRat p], y.2)]) (fun y h => ?_) ?_
    · obtain ⟨x1, g3⟩ := y
      replace h := hJ x1 h
      show Vc _ _ _ _ (envOf [(1, eL eRat factors), (2, .ptr rg 2 g3 0 0), (30, .bool x1)]) (stL S rg [(2, .arr 3 [eRat p], g3)])
      refine Vc.cond' rfl (fun hb1 => ?_) (fun hb1 => ?_)
      · replace h := h.1 hb1
        refine qZ (rZ ?_)
        refine wZ rg (o_iface (by rw [td107]; trivial) (v := .int .i64 11) rfl ?_)
        refine asZ .nil rfl ?_
        refine asZ (.iface 107 (.int .i64 11)) rfl ?_
        refine nZ ?_
        refine Vc.ret' ?_
        refine res_tmp (v := .nil) rfl ?_
        refine res_tmp (v := .iface 107 (.int .i64 11)) rfl ?_
        refine res_nil ?_
        show Gives _ (.tuple [.nil, .iface 107 (.int .i64 11)]) _
        exact gives_out hrg (VW.tupL (vl' (VW.nilL) (vl' vr (vn)))) (hQ _ _ h)
      replace h := h.2 hb1
      refine Vc.skip' ?_
      refine qZ (rZ ?_)
      refine mvZ (eL eRat factors) rfl ?_
      refine wZ rg (o_len td22 rfl ?_)
      refine wZ rg (o_addG rfl rfl h.1 ?_)
      replace h := h.2
      refine asZ (.int .i64 ((factors.length : Int) + 1)) rfl ?_
      refine nZ (qZ (rZ ?_))
      refine asZ .nil rfl ?_
      refine nZ (qZ (rZ ?_))
      refine wZ rg (o_loadBA (atL (k := 2) rfl) sz27 (by decide) ag27 rfl rfl (v := eRat p) rfl ?_)
      refine wZ rg (o_alloc zav27 ok27 (kk := 3) rfl (fun g4 => ?_))
      refine wZ rg (o_storeB (atL (k := 8) rfl) sz27 (by decide) rfl (w := eRat p) rfl rfl rfl (v := eRat p) rfl setL ?_)
      refine nZ (qZ (qZ (rZ ?_)))
      refine asZ (.int .i64 1) rfl ?_
      refine nZ ?_
      refine Vc.blk ?_
      refine Vc.mat 7 78 3 rfl (by decide) (fun g5 => ?_)
      obtain ⟨I, μ, h0, hI⟩ := h
      refine Vc.loop' (σ := ((Int × GRat × (List GRat)) × (Nat × Nat))) (fun y => I y.1) (fun y => μ y.1) (fun y => envOf [(1, eL eRat factors), (6, .int .i64 ((factors.length : Int) + 1)), (7, .sl 3 rg 78 y.2.2 0 y.1.2.2.length), (8, .ptr rg 8 y.2.1 0 0), (9, .int .i64 y.1.1)]) (fun y => stL S rg [(8, .arr 3 [eRat y.1.2.1], y.2.1), (78, .arr 3 (List.map eRat y.1.2.2), y.2.2)]) ((1, p, []), (g4, g5)) (canon (fc vr (fc vr (fc (VW.slen (by first | rfl | omega | (simp only [go_sem] <;> omega))) (fc vr (fc vr (fn)))))) (sc rfl (sc rfl (sn)))) h0 (fun y h => ?_)
      obtain ⟨⟨k1, x2, out⟩, ⟨g6, g7⟩⟩ := y
      replace h := hI (k1, x2, out) h
      show Vc _ _ _ _ (envOf [(1, eL eRat factors), (6, .int .i64 ((factors.length : Int) + 1)), (7, .sl 3 rg 78 g7 0 out.length), (8, .ptr rg 8 g6 0 0), (9, .int .i64 k1)]) (stL S rg [(8, .arr 3 [eRat x2], g6), (78, .arr 3 (List.map eRat out), g7)])
      refine qZ (qZ (rZ ?_))
      refine mvZ (.int .i64 k1) rfl ?_
      refine mvZ (.int .i64 ((factors.length : Int) + 1)) rfl ?_
      refine wZ rg (o_leq rfl rfl ?_)
      refine nZ ?_
      refine Vc.cond' rfl (fun hb2 => ?_) (fun hb2 => ?_)
      · replace h := h.1 hb2
        refine Vc.skip' ?_
        refine qZ ?_
        refine Vc.blk ?_
        refine qZ (rZ ?_)
        refine wZ rg (o_loadBA (atL (k := 8) rfl) sz27 (by decide) ag27 rfl rfl (v := eRat x2) rfl ?_)
        refine wZ rg (o_alloc zav27 ok27 (kk := 3) rfl (fun g8 => ?_))
        refine wZ rg (o_storeB (atL (k := 10) rfl) sz27 (by decide) rfl (w := eRat x2) rfl rfl rfl (v := eRat x2) rfl setL ?_)
        refine nZ ?_
        obtain ⟨J, h, hJ⟩ := h
        refine Vc.join' (σ := ((GRat × GRat) × (Nat × Nat × Nat))) (fun y => J y.1) (fun y => envOf [(1, eL eRat factors), (6, .int .i64 ((factors.length : Int) + 1)), (7, .sl 3 rg 78 y.2.2.2 0 out.length), (8, .ptr rg 8 y.2.1 0 0), (9, .int .i64 k1), (10, .ptr rg 10 y.2.2.1 0 0)]) (fun y => stL S rg [(8, .arr 3 [eRat y.1.1], y.2.1), (10, .arr 3 [eRat y.1.2], y.2.2.1), (78, .arr 3 (List.map eRat out), y.2.2.2)]) (fun y h => ?_) ?_
        · obtain ⟨⟨x3, x4⟩, ⟨g9, g10, g11⟩⟩ := y
          replace h := hJ (x3, x4) h
          show Vc _ _ _ _ (envOf [(1, eL eRat factors), (6, .int .i64 ((factors.length : Int) + 1)), (7, .sl 3 rg 78 g11 0 out.length), (8, .ptr rg 8 g9 0 0), (9, .int .i64 k1), (10, .ptr rg 10 g10 0 0)]) (stL S rg [(8, .arr 3 [eRat x3], g9), (10, .arr 3 [eRat x4], g10), (78, .arr 3 (List.map eRat out), g11)])
          refine qZ ?_
          have hg := h.1
          replace h := h.2
          have hg1 := h.1
          replace h := h.2
          obtain ⟨r, hc, h⟩ := h
          obtain ⟨r1, hc1, h⟩ := h
          obtain ⟨r2, r3, hc2, h⟩ := h
          refine Vc.drawn' mixed rg (usOf [(5, pc (.int .i64 r)), (6, pc (eRat r1)), (7, pc (.tuple [eRat r2, eErr 107 r3]))]) (by kernel_rfl) ?_
          refine dL (E := ([(rg, 10)], none)) rfl rfl (by simp) (cfn) (o_loadBA (atL (k := 10) rfl) sz27 (by decide) ag27 rfl rfl (v := eRat x4) rfl ?_)
          refine dP rfl rfl (o_move (v := .int .i64 ((factors.length : Int) + 1)) rfl ?_)
          refine dP rfl rfl (o_subG rfl rfl hg ?_)
          refine dP rfl rfl (o_move (v := .int .i64 k1) rfl ?_)
          refine dP rfl rfl (o_subG rfl rfl hg1 ?_)
          refine dC (vs := [AV.int .i64 (((factors.length : Int) + 1) - 1), AV.int .i64 (k1 - 1)]) rfl (vl' vr (vl' vr (vn))) (fun _ => common_choose_ctr hc (fun _ hr => ⟨by rw [hr], rfl⟩)) rfl ?_
          refine dC (vs := [AV.int .i64 r]) rfl (vl' vr (vn)) (fun _ => rational_Of_ctr hc1 (fun _ hr => ⟨by rw [hr], rfl⟩)) rfl ?_
          refine dC (vs := [eRat x4, eRat r1]) rfl (vl' vr (vl' vr (vn))) (fun _ => rational_Div_ctr hc2 (fun _ _ hr => ⟨by rw [hr.1, hr.2], rfl⟩)) rfl ?_
          refine dP rfl rfl (o_move (v := .tuple [eRat r2, eErr 107 r3]) rfl ?_)
          refine dP rfl rfl (o_extract (v := eRat r2) rfl rfl rfl ?_)
          refine dP rfl rfl (o_extract (v := eErr 107 r3) rfl rfl rfl ?_)
          refine dL (E := ([], some (rg, 11))) rfl rfl (by simp) (cfa (by simp [apartE]) (cfn)) (o_alloc zav27 ok27 (kk := 3) rfl (fun g12 => ?_))
          refine dL (E := ([], some (rg, 11))) rfl rfl (by simp) (cfo (by kernel_rfl) (cfo (by kernel_rfl) (cfn))) (o_storeB (atL (k := 11) rfl) sz27 (by decide) rfl (w := eRat r2) rfl rfl rfl (v := eRat r2) rfl setL ?_)
          refine dP rfl rfl (o_assign (v := eErr 107 r3) rfl ?_)
          refine dN ?_
          refine qZ (qZ (rZ ?_))
          refine mvZ (eErr 107 r3) rfl ?_
          refine wZ rg (o_isnon td31 (E := 107) rfl rfl rfl ?_)
          refine nZ ?_
          refine Vc.cond' rfl (fun hb3 => ?_) (fun hb3 => ?_)
          · replace h := h.1 hb3
            refine qZ (rZ ?_)
            refine mvZ (eErr 107 r3) rfl ?_
            refine asZ .nil rfl ?_
            refine asZ (eErr 107 r3) rfl ?_
            refine nZ ?_
            refine Vc.ret' ?_
            refine res_tmp (v := .nil) rfl ?_
            refine res_tmp (v := eErr 107 r3) rfl ?_
            refine res_nil ?_
            show Gives _ (.tuple [.nil, eErr 107 r3]) _
            exact gives_out hrg (VW.tupL (vl' (VW.nilL) (vl' vr (vn)))) (hQ _ _ h)
          replace h := h.2 hb3
          refine Vc.skip' ?_
          refine rZ ?_
          refine mvZ (.sl 3 rg 78 g11 0 out.length) rfl ?_
          refine wZ rg (o_loadBA (atL (k := 11) rfl) sz27 (by decide) ag27 rfl rfl (v := eRat r2) rfl ?_)
          refine wZ rg (o_bslice td22 ok27 zav27 (es := [eRat r2]) rfl (kk := 3) rfl rfl rfl rfl rfl rfl (fun g13 => ?_))
          refine wZ rg (o_appR td22 bts27 ok27 zav27 (es := out) (xs := [r2]) (enc := eRat) (atL (k := 78) rfl) (by first | rfl | omega | (simp only [go_sem] <;> omega)) (view_rowE (atL (k := 77) rfl) (by first | rfl | omega | (simp only [go_sem] <;> omega))) (kk := 3) rfl rfl (fun _ => rfl) (fun _ => rfl) h.1 rfl (fun _ => setL) (fun g14 => ?_))
          replace h := h.2
          refine asZ (.sl 3 rg 78 g14 0 ((out ++ [r2]).length)) rfl ?_
          refine nZ (rZ ?_)
          refine mvZ (.int .i64 k1) rfl ?_
          refine wZ rg (o_addG rfl rfl h.1 ?_)
          replace h := h.2
          refine asZ (.int .i64 (k1 + 1)) rfl ?_
          refine nZ ?_
          exact ⟨(((k1 + 1), x3, (out ++ [r2])), (g9, g14)), (canon (fc vr (fc vr (fc vr (fc vr (fc vr (fn)))))) (sc rfl (sc rfl (sn)))), h⟩
        refine qZ (rZ ?_)
        refine mvZ (.int .i64 k1) rfl ?_
        refine mvZ (.int .i64 ((factors.length : Int) + 1)) rfl ?_
        refine wZ rg (o_lss rfl rfl ?_)
        refine nZ ?_
        refine Vc.cond' rfl (fun hb4 => ?_) (fun hb4 => ?_)
        · replace h := h.1 hb4
          refine qZ ?_
          obtain ⟨r4, hc3, h⟩ := h
          have hg2 := h.1
          replace h := h.2
          have hg3 := h.1
          replace h := h.2
          obtain ⟨r5, hc4, h⟩ := h
          obtain ⟨r6, hc5, h⟩ := h
          refine Vc.drawn' mixed rg (usOf [(1, pc (eRat r4)), (7, pc (eRat r5)), (8, pc (eRat r6))]) (by kernel_rfl) ?_
          refine dL (E := ([(rg, 8)], none)) rfl rfl (by simp) (cfn) (o_loadBA (atL (k := 8) rfl) sz27 (by decide) ag27 rfl rfl (v := eRat x2) rfl ?_)
          refine dC (vs := [AV.int .i64 1]) rfl (vl' vr (vn)) (fun _ => rational_Of_ctr hc3 (fun _ hr => ⟨by rw [hr], rfl⟩)) rfl ?_
          refine dP rfl rfl (o_move (v := eL eRat factors) rfl ?_)
          refine dP rfl rfl (o_move (v := .int .i64 k1) rfl ?_)
          refine dP rfl rfl (o_subG rfl rfl hg2 ?_)
          refine dP rfl rfl (o_idxL td22 sz27 (by decide) (fun _ => rfl) rfl rfl hg3 ?_)
          refine dP rfl rfl (o_loadIA sz27 (by decide) ag27 rfl rfl (v := eRat (at' factors (k1 - 1))) rfl ?_)
          refine dC (vs := [eRat r4, eRat (at' factors (k1 - 1))]) rfl (vl' vr (vl' vr (vn))) (fun _ => rational_Sub_ctr hc4 (fun _ hr => ⟨by rw [hr], rfl⟩)) rfl ?_
          refine dC (vs := [eRat x2, eRat r5]) rfl (vl' vr (vl' vr (vn))) (fun _ => rational_Mul_ctr hc5 (fun _ hr => ⟨by rw [hr], rfl⟩)) rfl ?_
          refine dL (E := ([], some (rg, 10))) rfl rfl (by simp) (cfo (by kernel_rfl) (cfn)) (o_storeB (atL (k := 10) rfl) sz27 (by decide) rfl (w := eRat r6) rfl rfl rfl (v := eRat r6) rfl setL ?_)
          refine dN ?_
          have hg4 := h.1
          replace h := h.2
          have hg5 := h.1
          replace h := h.2
          obtain ⟨r7, hc6, h⟩ := h
          refine Vc.drawn' mixed rg (usOf [(6, pc (eRat r7))]) (by kernel_rfl) ?_
          refine dL (E := ([(rg, 8)], none)) rfl rfl (by simp) (cfn) (o_loadBA (atL (k := 8) rfl) sz27 (by decide) ag27 rfl rfl (v := eRat x2) rfl ?_)
          refine dP rfl rfl (o_move (v := eL eRat factors) rfl ?_)
          refine dP rfl rfl (o_move (v := .int .i64 k1) rfl ?_)
          refine dP rfl rfl (o_subG rfl rfl hg4 ?_)
          refine dP rfl rfl (o_idxL td22 sz27 (by decide) (fun _ => rfl) rfl rfl hg5 ?_)
          refine dP rfl rfl (o_loadIA sz27 (by decide) ag27 rfl rfl (v := eRat (at' factors (k1 - 1))) rfl ?_)
          refine dC (vs := [eRat x2, eRat (at' factors (k1 - 1))]) rfl (vl' vr (vl' vr (vn))) (fun _ => rational_Mul_ctr hc6 (fun _ hr => ⟨by rw [hr], rfl⟩)) rfl ?_
          refine dL (E := ([], some (rg, 8))) rfl rfl (by simp) (cfo (by kernel_rfl) (cfn)) (o_storeB (atL (k := 8) rfl) sz27 (by decide) rfl (w := eRat r7) rfl rfl rfl (v := eRat r7) rfl setL ?_)
          refine dN ?_
          exact ⟨((r7, r6), (g6, g8, g7)), (canon (fc vr (fc vr (fc vr (fc vr (fc vr (fc vr (fn))))))) (sc rfl (sc rfl (sc rfl (sn))))), h⟩
        replace h := h.2 hb4
        refine Vc.skip' ?_
        exact ⟨((x2, x2), (g6, g8, g7)), (canon (fc vr (fc vr (fc vr (fc vr (fc vr (fc vr (fn))))))) (sc rfl (sc rfl (sc rfl (sn))))), h⟩
      replace h := h.2 hb2
      refine Vc.exit' (exB_self ?_)
      refine qZ (rZ ?_)
      refine mvZ (.sl 3 rg 78 g7 0 out.length) rfl ?_
      refine asZ (.sl 3 rg 78 g7 0 out.length) rfl ?_
      refine asZ .niface rfl ?_
      refine nZ ?_
      refine Vc.ret' ?_
      refine res_tmp (v := .sl 3 rg 78 g7 0 out.length) rfl ?_
      refine res_tmp (v := .niface) rfl ?_
      refine res_nil ?_
      show Gives _ (.tuple [.sl 3 rg 78 g7 0 out.length, .niface]) _
      refine gives_freeze (k := 78) (xs := List.map eRat out) rfl (v' := .tuple [eL eRat out, .niface]) (VW.tupL (vl' (frz_full rfl) (vl' vr (vn)))) ?_
      exact gives_out hrg (VW.tupL (vl' vr (vl' vr (vn)))) (hQ _ _ h)
    refine rZ ?_
    refine mvZ (eL eRat factors) rfl ?_
    refine wZ rg (o_len td22 rfl ?_)
    refine wZ rg (o_lss rfl rfl ?_)
    refine mvZ (.bool (decide ((factors.length : Int) < 1))) rfl ?_
    refine Wl.guard rfl rfl (fun hb5 => ?_) (fun hb5 => ?_)
    · replace h := h.2 hb5
      refine mvZ (eL eRat factors) rfl ?_
      refine Wl.guardT rfl rfl hb5 ?_
      refine wZ rg (o_len td22 rfl ?_)
      refine Wl.guardT rfl rfl hb5 ?_
      refine wZ rg (o_gtr rfl rfl ?_)
      refine wZ rg (o_pickF rfl hb5 (v := .bool (decide (3 < (factors.length : Int)))) rfl ?_)
      refine nZ ?_
      exact ⟨((decide (3 < (factors.length : Int))), g2), (canon (fc vr (fc vr (fc vr (fn)))) (sc rfl (sn))), h⟩
    replace h := h.1 hb5
    refine Wl.guardF rfl rfl hb5 rfl ?_
    refine Wl.guardF rfl rfl hb5 rfl ?_
    refine wZ rg (o_pickT rfl hb5 (v := .bool true) rfl ?_)
    refine nZ ?_
    exact ⟨(true, g2), (canon (fc vr (fc vr (fc vr (fn)))) (sc rfl (sn))), h⟩
  refine rZ ?_
  refine wZ rg (o_loadBA (atL (k := 2) rfl) sz27 (by decide) ag27 rfl rfl (v := eRat p) rfl ?_)
  refine wZ rg (o_bslice td22 ok27 zav27 (es := [eRat p]) rfl (kk := 3) rfl rfl rfl rfl rfl rfl (fun g15 => ?_))
  refine Wl.wk (canon_freeze (k := 14) (xs := List.map eRat [p]) rfl (es := [(1, eL eRat factors), (2, .ptr rg 2 g1 0 0), (14, eL eRat [p])]) (fc vr (fc vr (fc (frz_full rfl) (fn)))) (m := [(2, .arr 3 [eRat p], g1)]) (sc rfl (sn))) ?_
  refine wZ rg (o_call (us := [eL eRat [p]]) rfl (vl' vr (vn)) (common_probs_ctr h fun r8 h => ?_))
  refine wZ rg (o_not rfl ?_)
  refine mvZ (.bool (!r8)) rfl ?_
  refine Wl.guard rfl rfl (fun hb6 => ?_) (fun hb6 => ?_)
  · replace h := h.2 hb6
    refine mvZ (eL eRat factors) rfl ?_
    refine Wl.guardT rfl rfl hb6 ?_
    refine wZ rg (o_call (us := [eL eRat factors]) rfl (vl' vr (vn)) (common_probs_ctr h fun r9 h => ?_))
    refine Wl.guardT rfl rfl hb6 ?_
    refine wZ rg (o_not rfl ?_)
    refine wZ rg (o_pickF rfl hb6 (v := .bool (!r9)) rfl ?_)
    refine nZ ?_
    exact ⟨((!r9), g1), (canon (fc vr (fc vr (fc vr (fn)))) (sc rfl (sn))), h⟩
  replace h := h.1 hb6
  refine Wl.guardF rfl rfl hb6 rfl ?_
  refine Wl.guardF rfl rfl hb6 rfl ?_
  refine wZ rg (o_pickT rfl hb6 (v := .bool true) rfl ?_)
  refine nZ ?_
  exact ⟨(true, g1), (canon (fc vr (fc vr (fc vr (fn)))) (sc rfl (sn))), h⟩
theorem common_Beta_ctr {p : GRat} {beta : GRat} {Q : GRat → GRat → Option Int → Prop} {S : St} {R : AV → St → Prop} (h : common_Beta_W p beta Q) (hQ : ∀ r1 r2 r3, Q r1 r2 r3 → R (.tuple [eRat r1, eRat r2, eErr 107 r3]) S) :
    Ctr Try.prog 34 [eRat p, eRat beta] S R := by
  unfold common_Beta_W at h
  refine enterT Try.func34 rfl Try.ntmps34 Try.results34 (by kernel_rfl) (fun rg hrg => ?_)
  refine qZ (rZ ?_)
  refine wZ rg (o_box (v := eRat p) rfl rfl (kk := 3) rfl (by decide) (fun g1 => ?_))
  refine wZ rg (o_box (v := eRat beta) rfl rfl (kk := 3) rfl (by decide) (fun g2 => ?_))
  refine wZ rg (o_alloc zav27 ok27 (kk := 3) rfl (fun g3 => ?_))
  refine wZ rg (o_alloc zav27 ok27 (kk := 3) rfl (fun g4 => ?_))
  refine asZ .niface rfl ?_
  refine nZ (qZ (qZ (rZ ?_)))
  refine wZ rg (o_loadBA (atL (k := 2) rfl) sz27 (by decide) ag27 rfl rfl (v := eRat p) rfl ?_)
  refine wZ rg (o_loadBA (atL (k := 3) rfl) sz27 (by decide) ag27 rfl rfl (v := eRat beta) rfl ?_)
  refine wZ rg (o_bslice td22 ok27 zav27 (es := [eRat p, eRat beta]) rfl (kk := 3) rfl rfl rfl rfl rfl rfl (fun g5 => ?_))
  refine Wl.wk (canon_freeze (k := 10) (xs := List.map eRat [p, beta]) rfl (es := [(2, .ptr rg 2 g1 0 0), (3, .ptr rg 3 g2 0 0), (4, .ptr rg 4 g3 0 0), (5, .ptr rg 5 g4 0 0), (10, eL eRat [p, beta])]) (fc vr (fc vr (fc vr (fc vr (fc (frz_full rfl) (fn)))))) (m := [(2, .arr 3 [eRat p], g1), (3, .arr 3 [eRat beta], g2), (4, .arr 3 [.agg [.bool false, .nil, .nil]], g3), (5, .arr 3 [.agg [.bool false, .nil, .nil]], g4)]) (sc rfl (sc rfl (sc rfl (sc rfl (sn)))))) ?_
  refine wZ rg (o_call (us := [eL eRat [p, beta]]) rfl (vl' vr (vn)) (common_probs_ctr h fun r h => ?_))
  refine wZ rg (o_not rfl ?_)
  refine nZ ?_
  refine Vc.cond' rfl (fun hb => ?_) (fun hb => ?_)
  · replace h := h.1 hb
    refine qZ (rZ ?_)
    refine wZ rg (o_build td27 zav27 bok27 szs27 sz27 (ps := []) rfl rfl (v := .agg [.bool false, .nil, .nil]) rfl ?_)
    refine wZ rg (o_build td27 zav27 bok27 szs27 sz27 (ps := []) rfl rfl (v := .agg [.bool false, .nil, .nil]) rfl ?_)
    refine wZ rg (o_iface (by rw [td107]; trivial) (v := .int .i64 3) rfl ?_)
    refine wZ rg (o_storeB (atL (k := 4) rfl) sz27 (by decide) rfl (w := .agg [.bool false, .nil, .nil]) rfl rfl rfl (v := .agg [.bool false, .nil, .nil]) rfl setL ?_)
    refine wZ rg (o_storeB (atL (k := 5) rfl) sz27 (by decide) rfl (w := .agg [.bool false, .nil, .nil]) rfl rfl rfl (v := .agg [.bool false, .nil, .nil]) rfl setL ?_)
    refine asZ (.iface 107 (.int .i64 3)) rfl ?_
    refine nZ ?_
    refine Vc.ret' ?_
    refine res_cellA (atL (k := 4) rfl) sz27 (by decide) ag27 rfl rfl (v := .agg [.bool false, .nil, .nil]) rfl ?_
    refine res_cellA (atL (k := 5) rfl) sz27 (by decide) ag27 rfl rfl (v := .agg [.bool false, .nil, .nil]) rfl ?_
    refine res_tmp (v := .iface 107 (.int .i64 3)) rfl ?_
    refine res_nil ?_
    show Gives _ (.tuple [.agg [.bool false, .nil, .nil], .agg [.bool false, .nil, .nil], .iface 107 (.int .i64 3)]) _
    exact gives_out hrg (VW.tupL (vl' (VW.aggL (vl' vr (vl' (VW.nilL) (vl' (VW.nilL) (vn))))) (vl' (VW.aggL (vl' vr (vl' (VW.nilL) (vl' (VW.nilL) (vn))))) (vl' vr (vn))))) (hQ _ _ _ h)
  replace h := h.2 hb
  refine Vc.skip' ?_
  refine qZ (rZ ?_)
  refine wZ rg (o_loadBA (atL (k := 3) rfl) sz27 (by decide) ag27 rfl rfl (v := eRat beta) rfl ?_)
  refine wZ rg (o_loadBA (atL (k := 2) rfl) sz27 (by decide) ag27 rfl rfl (v := eRat p) rfl ?_)
  refine wZ rg (o_call (us := [eRat beta, eRat p]) rfl (vl' vr (vl' vr (vn))) (rational_Mul_ctr h fun r1 h => ?_))
  refine wZ rg (o_storeB (atL (k := 5) rfl) sz27 (by decide) rfl (w := eRat r1) rfl rfl rfl (v := eRat r1) rfl setL ?_)
  refine nZ (qZ ?_)
  obtain ⟨r2, hc, h⟩ := h
  obtain ⟨r3, hc1, h⟩ := h
  refine Vc.drawn' mixed rg (usOf [(0, pc (eRat r2)), (2, pc (eRat r3))]) (by kernel_rfl) ?_
  refine dC (vs := [AV.int .i64 1]) rfl (vl' vr (vn)) (fun _ => rational_Of_ctr hc (fun _ hr => ⟨by rw [hr], rfl⟩)) rfl ?_
  refine dL (E := ([(rg, 5)], none)) rfl rfl (by simp) (cfn) (o_loadBA (atL (k := 5) rfl) sz27 (by decide) ag27 rfl rfl (v := eRat r1) rfl ?_)
  refine dC (vs := [eRat r2, eRat r1]) rfl (vl' vr (vl' vr (vn))) (fun _ => rational_Sub_ctr hc1 (fun _ hr => ⟨by rw [hr], rfl⟩)) rfl ?_
  refine dL (E := ([], some (rg, 7))) rfl rfl (by simp) (cfa (by simp [apartE]) (cfn)) (o_alloc zav27 ok27 (kk := 3) rfl (fun g6 => ?_))
  refine dL (E := ([], some (rg, 7))) rfl rfl (by simp) (cfo (by kernel_rfl) (cfo (by kernel_rfl) (cfn))) (o_storeB (atL (k := 7) rfl) sz27 (by decide) rfl (w := eRat r3) rfl rfl rfl (v := eRat r3) rfl setL ?_)
  refine dN ?_
  refine qZ (qZ (rZ ?_))
  refine wZ rg (o_loadBA (atL (k := 7) rfl) sz27 (by decide) ag27 rfl rfl (v := eRat r3) rfl ?_)
  refine wZ rg (o_call (us := [eRat r3]) rfl (vl' vr (vn)) (rational_Sign_ctr h fun r4 h => ?_))
  refine wZ rg (o_eql rfl rfl ?_)
  refine nZ ?_
  refine Vc.cond' rfl (fun hb1 => ?_) (fun hb1 => ?_)
  · replace h := h.1 hb1
    refine qZ ?_
    refine Vc.drawn' mixed rg (fun _ => jcr) (by kernel_rfl) ?_
    refine dP rfl rfl (o_build td27 zav27 bok27 szs27 sz27 (ps := []) rfl rfl (v := .agg [.bool false, .nil, .nil]) rfl ?_)
    refine dL (E := ([(rg, 5)], none)) rfl rfl (by simp) (cfn) (o_loadBA (atL (k := 5) rfl) sz27 (by decide) ag27 rfl rfl (v := eRat r1) rfl ?_)
    refine dL (E := ([], some (rg, 4))) rfl rfl (by simp) (cfa (by simp [apartE]) (cfn)) (o_storeB (atL (k := 4) rfl) sz27 (by decide) rfl (w := .agg [.bool false, .nil, .nil]) rfl rfl rfl (v := .agg [.bool false, .nil, .nil]) rfl setL ?_)
    refine dL (E := ([], some (rg, 5))) rfl rfl (by simp) (cfo (by kernel_rfl) (cfo (by kernel_rfl) (cfn))) (o_storeB (atL (k := 5) rfl) sz27 (by decide) rfl (w := eRat r1) rfl rfl rfl (v := eRat r1) rfl setL ?_)
    refine dP rfl rfl (o_assign (v := .niface) rfl ?_)
    refine dN ?_
    refine Vc.ret' ?_
    refine res_cellA (atL (k := 4) rfl) sz27 (by decide) ag27 rfl rfl (v := .agg [.bool false, .nil, .nil]) rfl ?_
    refine res_cellA (atL (k := 5) rfl) sz27 (by decide) ag27 rfl rfl (v := eRat r1) rfl ?_
    refine res_tmp (v := .niface) rfl ?_
    refine res_nil ?_
    show Gives _ (.tuple [.agg [.bool false, .nil, .nil], eRat r1, .niface]) _
    exact gives_out hrg (VW.tupL (vl' (VW.aggL (vl' vr (vl' (VW.nilL) (vl' (VW.nilL) (vn))))) (vl' vr (vl' vr (vn))))) (hQ _ _ _ h)
  replace h := h.2 hb1
  refine Vc.skip' ?_
  refine qZ ?_
  obtain ⟨r5, hc2, h⟩ := h
  obtain ⟨r6, r7, hc3, h⟩ := h
  refine Vc.drawn' mixed rg (usOf [(2, pc (eRat r5)), (4, pc (.tuple [eRat r6, eErr 107 r7]))]) (by kernel_rfl) ?_
  refine dL (E := ([(rg, 2)], none)) rfl rfl (by simp) (cfn) (o_loadBA (atL (k := 2) rfl) sz27 (by decide) ag27 rfl rfl (v := eRat p) rfl ?_)
  refine dL (E := ([(rg, 5)], none)) rfl rfl (by simp) (cfa (by simp [apartE]) (cfn)) (o_loadBA (atL (k := 5) rfl) sz27 (by decide) ag27 rfl rfl (v := eRat r1) rfl ?_)
  refine dC (vs := [eRat p, eRat r1]) rfl (vl' vr (vl' vr (vn))) (fun _ => rational_Sub_ctr hc2 (fun _ hr => ⟨by rw [hr], rfl⟩)) rfl ?_
  refine dL (E := ([(rg, 7)], none)) rfl rfl (by simp) (cfa (by simp [apartE]) (cfa (by simp [apartE]) (cfn))) (o_loadBA (atL (k := 7) rfl) sz27 (by decide) ag27 rfl rfl (v := eRat r3) rfl ?_)
  refine dC (vs := [eRat r5, eRat r3]) rfl (vl' vr (vl' vr (vn))) (fun _ => rational_Div_ctr hc3 (fun _ _ hr => ⟨by rw [hr.1, hr.2], rfl⟩)) rfl ?_
  refine dP rfl rfl (o_move (v := .tuple [eRat r6, eErr 107 r7]) rfl ?_)
  refine dP rfl rfl (o_extract (v := eRat r6) rfl rfl rfl ?_)
  refine dP rfl rfl (o_extract (v := eErr 107 r7) rfl rfl rfl ?_)
  refine dL (E := ([], some (rg, 4))) rfl rfl (by simp) (cfo (by kernel_rfl) (cfo (by kernel_rfl) (cfo (by kernel_rfl) (cfn)))) (o_storeB (atL (k := 4) rfl) sz27 (by decide) rfl (w := eRat r6) rfl rfl rfl (v := eRat r6) rfl setL ?_)
  refine dP rfl rfl (o_assign (v := eErr 107 r7) rfl ?_)
  refine dN ?_
  refine qZ ?_
  refine Vc.drawn' mixed rg (fun _ => jcr) (by kernel_rfl) ?_
  refine dL (E := ([(rg, 4)], none)) rfl rfl (by simp) (cfn) (o_loadBA (atL (k := 4) rfl) sz27 (by decide) ag27 rfl rfl (v := eRat r6) rfl ?_)
  refine dL (E := ([(rg, 5)], none)) rfl rfl (by simp) (cfa (by simp [apartE]) (cfn)) (o_loadBA (atL (k := 5) rfl) sz27 (by decide) ag27 rfl rfl (v := eRat r1) rfl ?_)
  refine dP rfl rfl (o_move (v := eErr 107 r7) rfl ?_)
  refine dL (E := ([], some (rg, 4))) rfl rfl (by simp) (cfa (by simp [apartE]) (cfo (by kernel_rfl) (cfn))) (o_storeB (atL (k := 4) rfl) sz27 (by decide) rfl (w := eRat r6) rfl rfl rfl (v := eRat r6) rfl setL ?_)
  refine dL (E := ([], some (rg, 5))) rfl rfl (by simp) (cfo (by kernel_rfl) (cfo (by kernel_rfl) (cfo (by kernel_rfl) (cfn)))) (o_storeB (atL (k := 5) rfl) sz27 (by decide) rfl (w := eRat r1) rfl rfl rfl (v := eRat r1) rfl setL ?_)
  refine dP rfl rfl (o_assign (v := eErr 107 r7) rfl ?_)
  refine dN ?_
  refine Vc.ret' ?_
  refine res_cellA (atL (k := 4) rfl) sz27 (by decide) ag27 rfl rfl (v := eRat r6) rfl ?_
  refine res_cellA (atL (k := 5) rfl) sz27 (by decide) ag27 rfl rfl (v := eRat r1) rfl ?_
  refine res_tmp (v := eErr 107 r7) rfl ?_
  refine res_nil ?_
  show Gives _ (.tuple [eRat r6, eRat r1, eErr 107 r7]) _
  exact gives_out hrg (VW.tupL (vl' vr (vl' vr (vl' vr (vn))))) (hQ _ _ _ h)
theorem common_Expand_ctr {x0 : GFormula} {x1 : List GRat} {x2 : List GCauseGroup} {Q : GFormula → List GRat → Option Int → Prop} {S : St} {R : AV → St → Prop} (h : common_Expand_W x0 x1 x2 Q) (hQ : ∀ r1 r2 r3, Q r1 r2 r3 → R (.tuple [eFormula r1, eL eRat r2, eErr 107 r3]) S) :
    Ctr Try.prog 75 [eFormula x0, eL eRat x1, eL eCauseGroup x2] S R := h.elim
end Go.Proofs.Ytonbnfgknijpoaa
