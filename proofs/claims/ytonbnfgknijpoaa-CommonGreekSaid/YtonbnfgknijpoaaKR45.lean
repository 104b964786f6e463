/- Walks of functions. Conditions: none. -/
import Derived.Test.YtonbnfgknijpoaaWR45
import Derived.Test.YtonbnfgknijpoaaGgTy
import Derived.Test.YtonbnfgknijpoaaKB
namespace Go.Proofs.Ytonbnfgknijpoaa
open Go.Gg
set_option maxRecDepth 100000
theorem ref45_probs_ctr {l : List GRat} {Q : Bool → Prop} {S : St} {R : AV → St → Prop} (h : ref45_probs_W l Q) (hQ : ∀ r1, Q r1 → R (AV.bool r1) S) :
    Ctr Try.prog 99 [eL eRat l] S R := by
  unfold ref45_probs_W at h
  refine enterT Try.func99 rfl Try.ntmps99 Try.results99 (by kernel_rfl) (fun rg hrg => ?_)
  refine Vc.seq' ?_
  refine Vc.region' ?_
  refine Wl.cons rg (o_assign (v := .bool false) rfl ?_)
  refine Wl.nil ?_
  refine Vc.seq' ?_
  refine Vc.seq' ?_
  refine Vc.region' ?_
  refine Wl.cons rg (o_move (v := eL eRat l) rfl ?_)
  refine Wl.cons rg (o_len td22 rfl ?_)
  refine Wl.cons rg (o_move (v := .int .i64 0) rfl ?_)
  refine Wl.nil ?_
  refine Vc.blk ?_
  obtain ⟨I, μ, h0, hI⟩ := h
  refine Vc.loop' (σ := (Int)) (fun y => I y) (fun y => μ y) (fun y => envOf [(5, eL eRat l), (6, .int .i64 (l.length : Int)), (7, .int .i64 y)]) (fun y => stL S rg []) 0 (canon (fc vr (fc vr (fc vr (fn)))) (sn)) h0 (fun x h => ?_)
  replace h := hI x h
  show Vc _ _ _ _ (envOf [(5, eL eRat l), (6, .int .i64 (l.length : Int)), (7, .int .i64 x)]) (stL S rg [])
  refine Vc.seq' ?_
  refine Vc.region' ?_
  refine Wl.cons rg (o_lss rfl rfl ?_)
  refine Wl.nil ?_
  refine Vc.seq' ?_
  refine Vc.cond' rfl (fun hb => ?_) (fun hb => ?_)
  · replace h := h.1 hb
    refine Vc.skip' ?_
    refine Vc.seq' ?_
    refine Vc.blk ?_
    refine Vc.seq' ?_
    refine Vc.region' ?_
    refine Wl.cons rg (o_idxL td22 sz27 (by decide) (fun _ => rfl) rfl rfl h.1 ?_)
    replace h := h.2
    refine Wl.cons rg (o_loadIA sz27 (by decide) ag27 rfl rfl (v := eRat (at' l x)) rfl ?_)
    refine Wl.cons rg (o_alloc zav27 ok27 (kk := 3) rfl (fun g1 => ?_))
    refine Wl.cons rg (o_storeB (atL (k := 4) rfl) sz27 (by decide) rfl (w := eRat (at' l x)) rfl rfl rfl (v := eRat (at' l x)) rfl setL ?_)
    refine Wl.nil ?_
    refine Vc.seq' ?_
    refine Vc.region' ?_
    refine Wl.cons rg (o_loadBA (atL (k := 4) rfl) sz27 (by decide) ag27 rfl rfl (v := eRat (at' l x)) rfl ?_)
    refine Wl.cons rg (o_call (us := [eRat (at' l x)]) rfl (vl' vr (vn)) (ref02_Prob_ctr h fun r h => ?_))
    refine Wl.cons rg (o_not rfl ?_)
    refine Wl.nil ?_
    refine Vc.cond' rfl (fun hb1 => ?_) (fun hb1 => ?_)
    · replace h := h.1 hb1
      refine Vc.seq' ?_
      refine Vc.region' ?_
      refine Wl.cons rg (o_assign (v := .bool false) rfl ?_)
      refine Wl.nil ?_
      refine Vc.ret' ?_
      refine res_tmp (v := .bool false) rfl ?_
      refine res_nil ?_
      show Gives _ (.bool false) _
      exact gives_out hrg (VW.refl _) (hQ _ h)
    · replace h := h.2 hb1
      refine Vc.skip' ?_
      refine Vc.region' ?_
      refine Wl.cons rg (o_addG rfl rfl h.1 ?_)
      replace h := h.2
      refine Wl.cons rg (o_move (v := .int .i64 (x + 1)) rfl ?_)
      refine Wl.nil ?_
      exact ⟨(x + 1), (canon (fc vr (fc vr (fc vr (fn)))) (sn)), h⟩
  · replace h := h.2 hb
    refine Vc.exit' (exB_self ?_)
    refine Vc.seq' ?_
    refine Vc.region' ?_
    refine Wl.cons rg (o_assign (v := .bool true) rfl ?_)
    refine Wl.nil ?_
    refine Vc.ret' ?_
    refine res_tmp (v := .bool true) rfl ?_
    refine res_nil ?_
    show Gives _ (.bool true) _
    exact gives_out hrg (VW.refl _) (hQ _ h)
theorem ref45_rest_ctr {x : GRat} {Q : GRat → Prop} {S : St} {R : AV → St → Prop} (h : ref45_rest_W x Q) (hQ : ∀ r1, Q r1 → R (eRat r1) S) :
    Ctr Try.prog 100 [eRat x] S R := by
  unfold ref45_rest_W at h
  refine enterT Try.func100 rfl Try.ntmps100 Try.results100 (by kernel_rfl) (fun rg hrg => ?_)
  refine Vc.seq' ?_
  refine Vc.region' ?_
  refine Wl.cons rg (o_box (v := eRat x) rfl rfl (kk := 3) rfl (by decide) (fun g1 => ?_))
  refine Wl.cons rg (o_alloc zav27 ok27 (kk := 3) rfl (fun g2 => ?_))
  refine Wl.nil ?_
  refine Vc.seq' ?_
  obtain ⟨r, hc, h⟩ := h
  obtain ⟨r1, hc1, h⟩ := h
  refine Vc.drawn' mixed rg (usOf [(0, pc (eRat r)), (2, pc (eRat r1))]) (by kernel_rfl) ?_
  refine dC (vs := [AV.int .i64 1]) rfl (vl' vr (vn)) (fun _ => ref02_Of_ctr hc (fun _ hr => ⟨by rw [hr], rfl⟩)) rfl ?_
  refine dL (E := ([(rg, 1)], none)) rfl rfl (by simp) (cfn) (o_loadBA (atL (k := 1) rfl) sz27 (by decide) ag27 rfl rfl (v := eRat x) rfl ?_)
  refine dC (vs := [eRat r, eRat x]) rfl (vl' vr (vl' vr (vn))) (fun _ => ref02_Sub_ctr hc1 (fun _ hr => ⟨by rw [hr], rfl⟩)) rfl ?_
  refine dL (E := ([], some (rg, 2))) rfl rfl (by simp) (cfo (by kernel_rfl) (cfn)) (o_storeB (atL (k := 2) rfl) sz27 (by decide) rfl (w := eRat r1) rfl rfl rfl (v := eRat r1) rfl setL ?_)
  refine dN ?_
  refine Vc.ret' ?_
  refine res_cellA (atL (k := 2) rfl) sz27 (by decide) ag27 rfl rfl (v := eRat r1) rfl ?_
  refine res_nil ?_
  show Gives _ (eRat r1) _
  exact gives_out hrg (VW.refl _) (hQ _ h)
theorem ref45_choose_ctr {n : Int} {k1 : Int} {Q : Int → Prop} {S : St} {R : AV → St → Prop} (h : ref45_choose_W n k1 Q) (hQ : ∀ r1, Q r1 → R (AV.int .i64 r1) S) :
    Ctr Try.prog 101 [AV.int .i64 n, AV.int .i64 k1] S R := by
  unfold ref45_choose_W at h
  refine enterT Try.func101 rfl Try.ntmps101 Try.results101 (by kernel_rfl) (fun rg hrg => ?_)
  refine Vc.seq' ?_
  refine Vc.region' ?_
  refine Wl.cons rg (o_assign (v := .int .i64 0) rfl ?_)
  refine Wl.nil ?_
  refine Vc.seq' ?_
  refine Vc.region' ?_
  refine Wl.cons rg (o_assign (v := .int .i64 1) rfl ?_)
  refine Wl.nil ?_
  refine Vc.seq' ?_
  refine Vc.seq' ?_
  refine Vc.region' ?_
  refine Wl.cons rg (o_move (v := .int .i64 k1) rfl ?_)
  refine Wl.cons rg (o_move (v := .int .i64 0) rfl ?_)
  refine Wl.nil ?_
  refine Vc.blk ?_
  obtain ⟨I, μ, h0, hI⟩ := h
  refine Vc.loop' (σ := (Int × Int)) (fun y => I y) (fun y => μ y) (fun y => envOf [(0, .int .i64 n), (5, .int .i64 y.1), (7, .int .i64 k1), (8, .int .i64 y.2)]) (fun y => stL S rg []) (1, 0) (canon (fc vr (fc vr (fc vr (fc vr (fn))))) (sn)) h0 (fun y h => ?_)
  obtain ⟨out, x⟩ := y
  replace h := hI (out, x) h
  show Vc _ _ _ _ (envOf [(0, .int .i64 n), (5, .int .i64 out), (7, .int .i64 k1), (8, .int .i64 x)]) (stL S rg [])
  refine Vc.seq' ?_
  refine Vc.region' ?_
  refine Wl.cons rg (o_lss rfl rfl ?_)
  refine Wl.nil ?_
  refine Vc.seq' ?_
  refine Vc.cond' rfl (fun hb => ?_) (fun hb => ?_)
  · replace h := h.1 hb
    refine Vc.skip' ?_
    refine Vc.seq' ?_
    refine Vc.blk ?_
    refine Vc.seq' ?_
    refine Vc.region' ?_
    refine Wl.cons rg (o_move (v := .int .i64 x) rfl ?_)
    refine Wl.cons rg (o_assign (v := .int .i64 x) rfl ?_)
    refine Wl.nil ?_
    refine Vc.region' ?_
    refine Wl.cons rg (o_move (v := .int .i64 out) rfl ?_)
    refine Wl.cons rg (o_move (v := .int .i64 n) rfl ?_)
    refine Wl.cons rg (o_move (v := .int .i64 x) rfl ?_)
    refine Wl.cons rg (o_subG rfl rfl h.1 ?_)
    replace h := h.2
    refine Wl.cons rg (o_mulG rfl rfl h.1 ?_)
    replace h := h.2
    refine Wl.cons rg (o_move (v := .int .i64 x) rfl ?_)
    refine Wl.cons rg (o_addG rfl rfl h.1 ?_)
    replace h := h.2
    refine Wl.cons rg (o_quoG rfl rfl h.1 ?_)
    replace h := h.2
    refine Wl.cons rg (o_assign (v := .int .i64 (Int.tdiv (out * (n - x)) (x + 1))) rfl ?_)
    refine Wl.nil ?_
    refine Vc.region' ?_
    refine Wl.cons rg (o_addG rfl rfl h.1 ?_)
    replace h := h.2
    refine Wl.cons rg (o_move (v := .int .i64 (x + 1)) rfl ?_)
    refine Wl.nil ?_
    exact ⟨((Int.tdiv (out * (n - x)) (x + 1)), (x + 1)), (canon (fc vr (fc vr (fc vr (fc vr (fn))))) (sn)), h⟩
  · replace h := h.2 hb
    refine Vc.exit' (exB_self ?_)
    refine Vc.seq' ?_
    refine Vc.region' ?_
    refine Wl.cons rg (o_move (v := .int .i64 out) rfl ?_)
    refine Wl.cons rg (o_assign (v := .int .i64 out) rfl ?_)
    refine Wl.nil ?_
    refine Vc.ret' ?_
    refine res_tmp (v := .int .i64 out) rfl ?_
    refine res_nil ?_
    show Gives _ (.int .i64 out) _
    exact gives_out hrg (VW.refl _) (hQ _ h)
theorem ref45_Greek_ctr {p : GRat} {factors : List GRat} {Q : List GRat → Int → Prop} {S : St} {R : AV → St → Prop} (h : ref45_Greek_W p factors Q) (hQ : ∀ r1 r2, Q r1 r2 → R (.tuple [eL eRat r1, AV.int .i64 r2]) S) :
    Ctr Try.prog 33 [eRat p, eL eRat factors] S R := by
  unfold ref45_Greek_W at h
  refine enterT Try.func33 rfl Try.ntmps33 Try.results33 (by kernel_rfl) (fun rg hrg => ?_)
  refine Vc.seq' ?_
  refine Vc.region' ?_
  refine Wl.cons rg (o_box (v := eRat p) rfl rfl (kk := 3) rfl (by decide) (fun g1 => ?_))
  refine Wl.cons rg (o_assign (v := .nil) rfl ?_)
  refine Wl.cons rg (o_assign (v := .int .i64 0) rfl ?_)
  refine Wl.nil ?_
  refine Vc.seq' ?_
  obtain ⟨J, h, hJ⟩ := h
  refine Vc.join' (σ := ((Bool) × (Nat))) (fun y => J y.1) (fun y => envOf [(1, eL eRat factors), (2, .ptr rg 2 y.2 0 0), (18, .bool y.1)]) (fun y => stL S rg [(2, .arr 3 [eRat p], y.2)]) (fun y h => ?_) ?_
  · obtain ⟨x, g2⟩ := y
    replace h := hJ x h
    show Vc _ _ _ _ (envOf [(1, eL eRat factors), (2, .ptr rg 2 g2 0 0), (18, .bool x)]) (stL S rg [(2, .arr 3 [eRat p], g2)])
    refine Vc.cond' rfl (fun hb => ?_) (fun hb => ?_)
    · replace h := h.1 hb
      refine Vc.seq' ?_
      refine Vc.region' ?_
      refine Wl.cons rg (o_assign (v := .nil) rfl ?_)
      refine Wl.cons rg (o_assign (v := .int .i64 3) rfl ?_)
      refine Wl.nil ?_
      refine Vc.ret' ?_
      refine res_tmp (v := .nil) rfl ?_
      refine res_tmp (v := .int .i64 3) rfl ?_
      refine res_nil ?_
      show Gives _ (.tuple [.nil, .int .i64 3]) _
      exact gives_out hrg (VW.tupL (vl' (VW.nilL) (vl' vr (vn)))) (hQ _ _ h)
    · replace h := h.2 hb
      refine Vc.skip' ?_
      refine Vc.seq' ?_
      obtain ⟨J, h, hJ⟩ := h
      refine Vc.join' (σ := ((Bool) × (Nat))) (fun y => J y.1) (fun y => envOf [(1, eL eRat factors), (2, .ptr rg 2 y.2 0 0), (26, .bool y.1)]) (fun y => stL S rg [(2, .arr 3 [eRat p], y.2)]) (fun y h => ?_) ?_
      · obtain ⟨x1, g3⟩ := y
        replace h := hJ x1 h
        show Vc _ _ _ _ (envOf [(1, eL eRat factors), (2, .ptr rg 2 g3 0 0), (26, .bool x1)]) (stL S rg [(2, .arr 3 [eRat p], g3)])
        refine Vc.cond' rfl (fun hb1 => ?_) (fun hb1 => ?_)
        · replace h := h.1 hb1
          refine Vc.seq' ?_
          refine Vc.region' ?_
          refine Wl.cons rg (o_assign (v := .nil) rfl ?_)
          refine Wl.cons rg (o_assign (v := .int .i64 11) rfl ?_)
          refine Wl.nil ?_
          refine Vc.ret' ?_
          refine res_tmp (v := .nil) rfl ?_
          refine res_tmp (v := .int .i64 11) rfl ?_
          refine res_nil ?_
          show Gives _ (.tuple [.nil, .int .i64 11]) _
          exact gives_out hrg (VW.tupL (vl' (VW.nilL) (vl' vr (vn)))) (hQ _ _ h)
        · replace h := h.2 hb1
          refine Vc.skip' ?_
          refine Vc.seq' ?_
          refine Vc.region' ?_
          refine Wl.cons rg (o_move (v := eL eRat factors) rfl ?_)
          refine Wl.cons rg (o_len td22 rfl ?_)
          refine Wl.cons rg (o_addG rfl rfl h.1 ?_)
          replace h := h.2
          refine Wl.cons rg (o_assign (v := .int .i64 ((factors.length : Int) + 1)) rfl ?_)
          refine Wl.nil ?_
          refine Vc.seq' ?_
          refine Vc.region' ?_
          refine Wl.cons rg (o_loadBA (atL (k := 2) rfl) sz27 (by decide) ag27 rfl rfl (v := eRat p) rfl ?_)
          refine Wl.cons rg (o_alloc zav27 ok27 (kk := 3) rfl (fun g4 => ?_))
          refine Wl.cons rg (o_storeB (atL (k := 7) rfl) sz27 (by decide) rfl (w := eRat p) rfl rfl rfl (v := eRat p) rfl setL ?_)
          refine Wl.nil ?_
          refine Vc.seq' ?_
          refine Vc.region' ?_
          refine Wl.cons rg (o_assign (v := .nil) rfl ?_)
          refine Wl.nil ?_
          refine Vc.seq' ?_
          refine Vc.seq' ?_
          refine Vc.region' ?_
          refine Wl.cons rg (o_assign (v := .int .i64 1) rfl ?_)
          refine Wl.nil ?_
          refine Vc.blk ?_
          refine Vc.mat 8 69 3 rfl (by decide) (fun g5 => ?_)
          obtain ⟨I, μ, h0, hI⟩ := h
          refine Vc.loop' (σ := ((Int × GRat × (List GRat)) × (Nat × Nat))) (fun y => I y.1) (fun y => μ y.1) (fun y => envOf [(1, eL eRat factors), (6, .int .i64 ((factors.length : Int) + 1)), (7, .ptr rg 7 y.2.1 0 0), (8, .sl 3 rg 69 y.2.2 0 y.1.2.2.length), (9, .int .i64 y.1.1)]) (fun y => stL S rg [(7, .arr 3 [eRat y.1.2.1], y.2.1), (69, .arr 3 (List.map eRat y.1.2.2), y.2.2)]) ((1, p, []), (g4, g5)) (canon (fc vr (fc vr (fc vr (fc (VW.slen (by first | rfl | simp only [len_set', len_rep'])) (fc vr (fn)))))) (sc rfl (sc rfl (sn)))) h0 (fun y h => ?_)
          obtain ⟨⟨k1, x2, out⟩, ⟨g6, g7⟩⟩ := y
          replace h := hI (k1, x2, out) h
          show Vc _ _ _ _ (envOf [(1, eL eRat factors), (6, .int .i64 ((factors.length : Int) + 1)), (7, .ptr rg 7 g6 0 0), (8, .sl 3 rg 69 g7 0 out.length), (9, .int .i64 k1)]) (stL S rg [(7, .arr 3 [eRat x2], g6), (69, .arr 3 (List.map eRat out), g7)])
          refine Vc.seq' ?_
          refine Vc.seq' ?_
          refine Vc.region' ?_
          refine Wl.cons rg (o_move (v := .int .i64 k1) rfl ?_)
          refine Wl.cons rg (o_move (v := .int .i64 ((factors.length : Int) + 1)) rfl ?_)
          refine Wl.cons rg (o_leq rfl rfl ?_)
          refine Wl.nil ?_
          refine Vc.cond' rfl (fun hb2 => ?_) (fun hb2 => ?_)
          · replace h := h.1 hb2
            refine Vc.skip' ?_
            refine Vc.seq' ?_
            refine Vc.blk ?_
            refine Vc.seq' ?_
            refine Vc.region' ?_
            refine Wl.cons rg (o_loadBA (atL (k := 7) rfl) sz27 (by decide) ag27 rfl rfl (v := eRat x2) rfl ?_)
            refine Wl.cons rg (o_alloc zav27 ok27 (kk := 3) rfl (fun g8 => ?_))
            refine Wl.cons rg (o_storeB (atL (k := 10) rfl) sz27 (by decide) rfl (w := eRat x2) rfl rfl rfl (v := eRat x2) rfl setL ?_)
            refine Wl.nil ?_
            obtain ⟨J, h, hJ⟩ := h
            refine Vc.join' (σ := ((GRat × GRat) × (Nat × Nat × Nat))) (fun y => J y.1) (fun y => envOf [(1, eL eRat factors), (6, .int .i64 ((factors.length : Int) + 1)), (7, .ptr rg 7 y.2.1 0 0), (8, .sl 3 rg 69 y.2.2.2 0 out.length), (9, .int .i64 k1), (10, .ptr rg 10 y.2.2.1 0 0)]) (fun y => stL S rg [(7, .arr 3 [eRat y.1.1], y.2.1), (10, .arr 3 [eRat y.1.2], y.2.2.1), (69, .arr 3 (List.map eRat out), y.2.2.2)]) (fun y h => ?_) ?_
            · obtain ⟨⟨x3, x4⟩, ⟨g9, g10, g11⟩⟩ := y
              replace h := hJ (x3, x4) h
              show Vc _ _ _ _ (envOf [(1, eL eRat factors), (6, .int .i64 ((factors.length : Int) + 1)), (7, .ptr rg 7 g9 0 0), (8, .sl 3 rg 69 g11 0 out.length), (9, .int .i64 k1), (10, .ptr rg 10 g10 0 0)]) (stL S rg [(7, .arr 3 [eRat x3], g9), (10, .arr 3 [eRat x4], g10), (69, .arr 3 (List.map eRat out), g11)])
              refine Vc.seq' ?_
              have hg := h.1
              replace h := h.2
              have hg1 := h.1
              replace h := h.2
              obtain ⟨r, hc, h⟩ := h
              obtain ⟨r1, hc1, h⟩ := h
              obtain ⟨r2, r3, hc2, h⟩ := h
              refine Vc.drawn' mixed rg (usOf [(5, pc (.int .i64 r)), (6, pc (eRat r1)), (7, pc (.tuple [eRat r2, .int .i64 r3]))]) (by kernel_rfl) ?_
              refine dL (E := ([(rg, 10)], none)) rfl rfl (by simp) (cfn) (o_loadBA (atL (k := 10) rfl) sz27 (by decide) ag27 rfl rfl (v := eRat x4) rfl ?_)
              refine dP rfl rfl (o_move (v := .int .i64 ((factors.length : Int) + 1)) rfl ?_)
              refine dP rfl rfl (o_subG rfl rfl hg ?_)
              refine dP rfl rfl (o_move (v := .int .i64 k1) rfl ?_)
              refine dP rfl rfl (o_subG rfl rfl hg1 ?_)
              refine dC (vs := [AV.int .i64 (((factors.length : Int) + 1) - 1), AV.int .i64 (k1 - 1)]) rfl (vl' vr (vl' vr (vn))) (fun _ => ref45_choose_ctr hc (fun _ hr => ⟨by rw [hr], rfl⟩)) rfl ?_
              refine dC (vs := [AV.int .i64 r]) rfl (vl' vr (vn)) (fun _ => ref02_Of_ctr hc1 (fun _ hr => ⟨by rw [hr], rfl⟩)) rfl ?_
              refine dC (vs := [eRat x4, eRat r1]) rfl (vl' vr (vl' vr (vn))) (fun _ => ref02_Div_ctr hc2 (fun _ _ hr => ⟨by rw [hr.1, hr.2], rfl⟩)) rfl ?_
              refine dP rfl rfl (o_move (v := .tuple [eRat r2, .int .i64 r3]) rfl ?_)
              refine dP rfl rfl (o_extract (v := eRat r2) rfl rfl rfl ?_)
              refine dP rfl rfl (o_extract (v := .int .i64 r3) rfl rfl rfl ?_)
              refine dL (E := ([], some (rg, 10))) rfl rfl (by simp) (cfo (by kernel_rfl) (cfn)) (o_storeB (atL (k := 10) rfl) sz27 (by decide) rfl (w := eRat r2) rfl rfl rfl (v := eRat r2) rfl setL ?_)
              refine dN ?_
              refine Vc.region' ?_
              refine Wl.cons rg (o_move (v := .sl 3 rg 69 g11 0 out.length) rfl ?_)
              refine Wl.cons rg (o_loadBA (atL (k := 10) rfl) sz27 (by decide) ag27 rfl rfl (v := eRat r2) rfl ?_)
              refine Wl.cons rg (o_bslice td22 ok27 zav27 (es := [eRat r2]) rfl (kk := 3) rfl rfl rfl rfl rfl rfl (fun g12 => ?_))
              refine Wl.cons rg (o_appR td22 bts27 ok27 zav27 (es := out) (xs := [r2]) (enc := eRat) (atL (k := 69) rfl) (by first | rfl | simp only [len_set', len_rep']) (view_row (atL (k := 68) rfl) (by simp only [len_set', len_rep', List.length_map, List.length_append, List.length_cons, List.length_nil])) (kk := 3) rfl rfl (fun _ => rfl) (fun _ => rfl) h.1 rfl (fun _ => setL) (fun g13 => ?_))
              replace h := h.2
              refine Wl.cons rg (o_assign (v := .sl 3 rg 69 g13 0 ((out ++ [r2]).length)) rfl ?_)
              refine Wl.nil ?_
              refine Vc.region' ?_
              refine Wl.cons rg (o_move (v := .int .i64 k1) rfl ?_)
              refine Wl.cons rg (o_addG rfl rfl h.1 ?_)
              replace h := h.2
              refine Wl.cons rg (o_assign (v := .int .i64 (k1 + 1)) rfl ?_)
              refine Wl.nil ?_
              exact ⟨(((k1 + 1), x3, (out ++ [r2])), (g9, g13)), (canon (fc vr (fc vr (fc vr (fc vr (fc vr (fn)))))) (sc rfl (sc rfl (sn)))), h⟩
            · refine Vc.seq' ?_
              refine Vc.region' ?_
              refine Wl.cons rg (o_move (v := .int .i64 k1) rfl ?_)
              refine Wl.cons rg (o_move (v := .int .i64 ((factors.length : Int) + 1)) rfl ?_)
              refine Wl.cons rg (o_lss rfl rfl ?_)
              refine Wl.nil ?_
              refine Vc.cond' rfl (fun hb3 => ?_) (fun hb3 => ?_)
              · replace h := h.1 hb3
                refine Vc.seq' ?_
                have hg2 := h.1
                replace h := h.2
                have hg3 := h.1
                replace h := h.2
                obtain ⟨r4, hc3, h⟩ := h
                obtain ⟨r5, hc4, h⟩ := h
                refine Vc.drawn' mixed rg (usOf [(6, pc (eRat r4)), (7, pc (eRat r5))]) (by kernel_rfl) ?_
                refine dL (E := ([(rg, 7)], none)) rfl rfl (by simp) (cfn) (o_loadBA (atL (k := 7) rfl) sz27 (by decide) ag27 rfl rfl (v := eRat x2) rfl ?_)
                refine dP rfl rfl (o_move (v := eL eRat factors) rfl ?_)
                refine dP rfl rfl (o_move (v := .int .i64 k1) rfl ?_)
                refine dP rfl rfl (o_subG rfl rfl hg2 ?_)
                refine dP rfl rfl (o_idxL td22 sz27 (by decide) (fun _ => rfl) rfl rfl hg3 ?_)
                refine dP rfl rfl (o_loadIA sz27 (by decide) ag27 rfl rfl (v := eRat (at' factors (k1 - 1))) rfl ?_)
                refine dC (vs := [eRat (at' factors (k1 - 1))]) rfl (vl' vr (vn)) (fun _ => ref45_rest_ctr hc3 (fun _ hr => ⟨by rw [hr], rfl⟩)) rfl ?_
                refine dC (vs := [eRat x2, eRat r4]) rfl (vl' vr (vl' vr (vn))) (fun _ => ref02_Mul_ctr hc4 (fun _ hr => ⟨by rw [hr], rfl⟩)) rfl ?_
                refine dL (E := ([], some (rg, 10))) rfl rfl (by simp) (cfo (by kernel_rfl) (cfn)) (o_storeB (atL (k := 10) rfl) sz27 (by decide) rfl (w := eRat r5) rfl rfl rfl (v := eRat r5) rfl setL ?_)
                refine dN ?_
                have hg4 := h.1
                replace h := h.2
                have hg5 := h.1
                replace h := h.2
                obtain ⟨r6, hc5, h⟩ := h
                refine Vc.drawn' mixed rg (usOf [(6, pc (eRat r6))]) (by kernel_rfl) ?_
                refine dL (E := ([(rg, 7)], none)) rfl rfl (by simp) (cfn) (o_loadBA (atL (k := 7) rfl) sz27 (by decide) ag27 rfl rfl (v := eRat x2) rfl ?_)
                refine dP rfl rfl (o_move (v := eL eRat factors) rfl ?_)
                refine dP rfl rfl (o_move (v := .int .i64 k1) rfl ?_)
                refine dP rfl rfl (o_subG rfl rfl hg4 ?_)
                refine dP rfl rfl (o_idxL td22 sz27 (by decide) (fun _ => rfl) rfl rfl hg5 ?_)
                refine dP rfl rfl (o_loadIA sz27 (by decide) ag27 rfl rfl (v := eRat (at' factors (k1 - 1))) rfl ?_)
                refine dC (vs := [eRat x2, eRat (at' factors (k1 - 1))]) rfl (vl' vr (vl' vr (vn))) (fun _ => ref02_Mul_ctr hc5 (fun _ hr => ⟨by rw [hr], rfl⟩)) rfl ?_
                refine dL (E := ([], some (rg, 7))) rfl rfl (by simp) (cfo (by kernel_rfl) (cfn)) (o_storeB (atL (k := 7) rfl) sz27 (by decide) rfl (w := eRat r6) rfl rfl rfl (v := eRat r6) rfl setL ?_)
                refine dN ?_
                exact ⟨((r6, r5), (g6, g8, g7)), (canon (fc vr (fc vr (fc vr (fc vr (fc vr (fc vr (fn))))))) (sc rfl (sc rfl (sc rfl (sn))))), h⟩
              · replace h := h.2 hb3
                refine Vc.skip' ?_
                exact ⟨((x2, x2), (g6, g8, g7)), (canon (fc vr (fc vr (fc vr (fc vr (fc vr (fc vr (fn))))))) (sc rfl (sc rfl (sc rfl (sn))))), h⟩
          · replace h := h.2 hb2
            refine Vc.exit' (exB_self ?_)
            refine Vc.seq' ?_
            refine Vc.region' ?_
            refine Wl.cons rg (o_move (v := .sl 3 rg 69 g7 0 out.length) rfl ?_)
            refine Wl.cons rg (o_assign (v := .sl 3 rg 69 g7 0 out.length) rfl ?_)
            refine Wl.cons rg (o_assign (v := .int .i64 0) rfl ?_)
            refine Wl.nil ?_
            refine Vc.ret' ?_
            refine res_tmp (v := .sl 3 rg 69 g7 0 out.length) rfl ?_
            refine res_tmp (v := .int .i64 0) rfl ?_
            refine res_nil ?_
            show Gives _ (.tuple [.sl 3 rg 69 g7 0 out.length, .int .i64 0]) _
            refine gives_freeze (k := 69) (xs := List.map eRat out) rfl (v' := .tuple [eL eRat out, .int .i64 0]) (VW.tupL (vl' (frz_full rfl) (vl' vr (vn)))) ?_
            exact gives_out hrg (VW.tupL (vl' vr (vl' vr (vn)))) (hQ _ _ h)
      · refine Vc.region' ?_
        refine Wl.cons rg (o_move (v := eL eRat factors) rfl ?_)
        refine Wl.cons rg (o_len td22 rfl ?_)
        refine Wl.cons rg (o_lss rfl rfl ?_)
        refine Wl.cons rg (o_move (v := .bool (decide ((factors.length : Int) < 1))) rfl ?_)
        refine Wl.guard rfl rfl (fun hb4 => ?_) (fun hb4 => ?_)
        · replace h := h.2 hb4
          refine Wl.cons rg (o_move (v := eL eRat factors) rfl ?_)
          refine Wl.guardT rfl rfl hb4 ?_
          refine Wl.cons rg (o_len td22 rfl ?_)
          refine Wl.guardT rfl rfl hb4 ?_
          refine Wl.cons rg (o_gtr rfl rfl ?_)
          refine Wl.cons rg (o_pickF rfl hb4 (v := .bool (decide (3 < (factors.length : Int)))) rfl ?_)
          refine Wl.nil ?_
          exact ⟨((decide (3 < (factors.length : Int))), g2), (canon (fc vr (fc vr (fc vr (fn)))) (sc rfl (sn))), h⟩
        · replace h := h.1 hb4
          refine Wl.guardF rfl rfl hb4 rfl ?_
          refine Wl.guardF rfl rfl hb4 rfl ?_
          refine Wl.cons rg (o_pickT rfl hb4 (v := .bool true) rfl ?_)
          refine Wl.nil ?_
          exact ⟨(true, g2), (canon (fc vr (fc vr (fc vr (fn)))) (sc rfl (sn))), h⟩
  · refine Vc.region' ?_
    refine Wl.cons rg (o_loadBA (atL (k := 2) rfl) sz27 (by decide) ag27 rfl rfl (v := eRat p) rfl ?_)
    refine Wl.cons rg (o_call (us := [eRat p]) rfl (vl' vr (vn)) (ref02_Prob_ctr h fun r7 h => ?_))
    refine Wl.cons rg (o_not rfl ?_)
    refine Wl.cons rg (o_move (v := .bool (!r7)) rfl ?_)
    refine Wl.guard rfl rfl (fun hb5 => ?_) (fun hb5 => ?_)
    · replace h := h.2 hb5
      refine Wl.cons rg (o_move (v := eL eRat factors) rfl ?_)
      refine Wl.guardT rfl rfl hb5 ?_
      refine Wl.cons rg (o_call (us := [eL eRat factors]) rfl (vl' vr (vn)) (ref45_probs_ctr h fun r8 h => ?_))
      refine Wl.guardT rfl rfl hb5 ?_
      refine Wl.cons rg (o_not rfl ?_)
      refine Wl.cons rg (o_pickF rfl hb5 (v := .bool (!r8)) rfl ?_)
      refine Wl.nil ?_
      exact ⟨((!r8), g1), (canon (fc vr (fc vr (fc vr (fn)))) (sc rfl (sn))), h⟩
    · replace h := h.1 hb5
      refine Wl.guardF rfl rfl hb5 rfl ?_
      refine Wl.guardF rfl rfl hb5 rfl ?_
      refine Wl.cons rg (o_pickT rfl hb5 (v := .bool true) rfl ?_)
      refine Wl.nil ?_
      exact ⟨(true, g1), (canon (fc vr (fc vr (fc vr (fn)))) (sc rfl (sn))), h⟩
theorem ref45_Beta_ctr {p : GRat} {beta : GRat} {Q : GRat → GRat → Int → Prop} {S : St} {R : AV → St → Prop} (h : ref45_Beta_W p beta Q) (hQ : ∀ r1 r2 r3, Q r1 r2 r3 → R (.tuple [eRat r1, eRat r2, AV.int .i64 r3]) S) :
    Ctr Try.prog 41 [eRat p, eRat beta] S R := by
  unfold ref45_Beta_W at h
  refine enterT Try.func41 rfl Try.ntmps41 Try.results41 (by kernel_rfl) (fun rg hrg => ?_)
  refine Vc.seq' ?_
  refine Vc.region' ?_
  refine Wl.cons rg (o_box (v := eRat p) rfl rfl (kk := 3) rfl (by decide) (fun g1 => ?_))
  refine Wl.cons rg (o_box (v := eRat beta) rfl rfl (kk := 3) rfl (by decide) (fun g2 => ?_))
  refine Wl.cons rg (o_alloc zav27 ok27 (kk := 3) rfl (fun g3 => ?_))
  refine Wl.cons rg (o_alloc zav27 ok27 (kk := 3) rfl (fun g4 => ?_))
  refine Wl.cons rg (o_assign (v := .int .i64 0) rfl ?_)
  refine Wl.nil ?_
  refine Vc.seq' ?_
  obtain ⟨J, h, hJ⟩ := h
  refine Vc.join' (σ := ((Bool) × (Nat × Nat × Nat × Nat))) (fun y => J y.1) (fun y => envOf [(2, .ptr rg 2 y.2.1 0 0), (3, .ptr rg 3 y.2.2.1 0 0), (4, .ptr rg 4 y.2.2.2.1 0 0), (5, .ptr rg 5 y.2.2.2.2 0 0), (14, .bool y.1)]) (fun y => stL S rg [(2, .arr 3 [eRat p], y.2.1), (3, .arr 3 [eRat beta], y.2.2.1), (4, .arr 3 [.agg [.bool false, .nil, .nil]], y.2.2.2.1), (5, .arr 3 [.agg [.bool false, .nil, .nil]], y.2.2.2.2)]) (fun y h => ?_) ?_
  · obtain ⟨x, ⟨g5, g6, g7, g8⟩⟩ := y
    replace h := hJ x h
    show Vc _ _ _ _ (envOf [(2, .ptr rg 2 g5 0 0), (3, .ptr rg 3 g6 0 0), (4, .ptr rg 4 g7 0 0), (5, .ptr rg 5 g8 0 0), (14, .bool x)]) (stL S rg [(2, .arr 3 [eRat p], g5), (3, .arr 3 [eRat beta], g6), (4, .arr 3 [.agg [.bool false, .nil, .nil]], g7), (5, .arr 3 [.agg [.bool false, .nil, .nil]], g8)])
    refine Vc.cond' rfl (fun hb => ?_) (fun hb => ?_)
    · replace h := h.1 hb
      refine Vc.seq' ?_
      refine Vc.region' ?_
      refine Wl.cons rg (o_build td27 zav27 bok27 szs27 sz27 (ps := []) rfl rfl (v := .agg [.bool false, .nil, .nil]) rfl ?_)
      refine Wl.cons rg (o_build td27 zav27 bok27 szs27 sz27 (ps := []) rfl rfl (v := .agg [.bool false, .nil, .nil]) rfl ?_)
      refine Wl.cons rg (o_storeB (atL (k := 4) rfl) sz27 (by decide) rfl (w := .agg [.bool false, .nil, .nil]) rfl rfl rfl (v := .agg [.bool false, .nil, .nil]) rfl setL ?_)
      refine Wl.cons rg (o_storeB (atL (k := 5) rfl) sz27 (by decide) rfl (w := .agg [.bool false, .nil, .nil]) rfl rfl rfl (v := .agg [.bool false, .nil, .nil]) rfl setL ?_)
      refine Wl.cons rg (o_assign (v := .int .i64 3) rfl ?_)
      refine Wl.nil ?_
      refine Vc.ret' ?_
      refine res_cellA (atL (k := 4) rfl) sz27 (by decide) ag27 rfl rfl (v := .agg [.bool false, .nil, .nil]) rfl ?_
      refine res_cellA (atL (k := 5) rfl) sz27 (by decide) ag27 rfl rfl (v := .agg [.bool false, .nil, .nil]) rfl ?_
      refine res_tmp (v := .int .i64 3) rfl ?_
      refine res_nil ?_
      show Gives _ (.tuple [.agg [.bool false, .nil, .nil], .agg [.bool false, .nil, .nil], .int .i64 3]) _
      exact gives_out hrg (VW.tupL (vl' (VW.aggL (vl' vr (vl' (VW.nilL) (vl' (VW.nilL) (vn))))) (vl' (VW.aggL (vl' vr (vl' (VW.nilL) (vl' (VW.nilL) (vn))))) (vl' vr (vn))))) (hQ _ _ _ h)
    · replace h := h.2 hb
      refine Vc.skip' ?_
      refine Vc.seq' ?_
      refine Vc.region' ?_
      refine Wl.cons rg (o_loadBA (atL (k := 3) rfl) sz27 (by decide) ag27 rfl rfl (v := eRat beta) rfl ?_)
      refine Wl.cons rg (o_loadBA (atL (k := 2) rfl) sz27 (by decide) ag27 rfl rfl (v := eRat p) rfl ?_)
      refine Wl.cons rg (o_call (us := [eRat beta, eRat p]) rfl (vl' vr (vl' vr (vn))) (ref02_Mul_ctr h fun r h => ?_))
      refine Wl.cons rg (o_storeB (atL (k := 5) rfl) sz27 (by decide) rfl (w := eRat r) rfl rfl rfl (v := eRat r) rfl setL ?_)
      refine Wl.nil ?_
      refine Vc.seq' ?_
      refine Vc.seq' ?_
      refine Vc.region' ?_
      refine Wl.cons rg (o_loadBA (atL (k := 5) rfl) sz27 (by decide) ag27 rfl rfl (v := eRat r) rfl ?_)
      refine Wl.cons rg (o_call (us := [eRat r]) rfl (vl' vr (vn)) (ref45_rest_ctr h fun r1 h => ?_))
      refine Wl.cons rg (o_call (us := [eRat r1]) rfl (vl' vr (vn)) (ref02_Sign_ctr h fun r2 h => ?_))
      refine Wl.cons rg (o_eql rfl rfl ?_)
      refine Wl.nil ?_
      refine Vc.cond' rfl (fun hb1 => ?_) (fun hb1 => ?_)
      · replace h := h.1 hb1
        refine Vc.seq' ?_
        refine Vc.drawn' mixed rg (fun _ => jcr) (by kernel_rfl) ?_
        refine dP rfl rfl (o_build td27 zav27 bok27 szs27 sz27 (ps := []) rfl rfl (v := .agg [.bool false, .nil, .nil]) rfl ?_)
        refine dL (E := ([(rg, 5)], none)) rfl rfl (by simp) (cfn) (o_loadBA (atL (k := 5) rfl) sz27 (by decide) ag27 rfl rfl (v := eRat r) rfl ?_)
        refine dL (E := ([], some (rg, 4))) rfl rfl (by simp) (cfa (by simp [apartE]) (cfn)) (o_storeB (atL (k := 4) rfl) sz27 (by decide) rfl (w := .agg [.bool false, .nil, .nil]) rfl rfl rfl (v := .agg [.bool false, .nil, .nil]) rfl setL ?_)
        refine dL (E := ([], some (rg, 5))) rfl rfl (by simp) (cfo (by kernel_rfl) (cfo (by kernel_rfl) (cfn))) (o_storeB (atL (k := 5) rfl) sz27 (by decide) rfl (w := eRat r) rfl rfl rfl (v := eRat r) rfl setL ?_)
        refine dP rfl rfl (o_assign (v := .int .i64 0) rfl ?_)
        refine dN ?_
        refine Vc.ret' ?_
        refine res_cellA (atL (k := 4) rfl) sz27 (by decide) ag27 rfl rfl (v := .agg [.bool false, .nil, .nil]) rfl ?_
        refine res_cellA (atL (k := 5) rfl) sz27 (by decide) ag27 rfl rfl (v := eRat r) rfl ?_
        refine res_tmp (v := .int .i64 0) rfl ?_
        refine res_nil ?_
        show Gives _ (.tuple [.agg [.bool false, .nil, .nil], eRat r, .int .i64 0]) _
        exact gives_out hrg (VW.tupL (vl' (VW.aggL (vl' vr (vl' (VW.nilL) (vl' (VW.nilL) (vn))))) (vl' vr (vl' vr (vn))))) (hQ _ _ _ h)
      · replace h := h.2 hb1
        refine Vc.skip' ?_
        refine Vc.seq' ?_
        obtain ⟨r3, hc, h⟩ := h
        obtain ⟨r4, hc1, h⟩ := h
        obtain ⟨r5, r6, hc2, h⟩ := h
        refine Vc.drawn' mixed rg (usOf [(2, pc (eRat r3)), (4, pc (eRat r4)), (5, pc (.tuple [eRat r5, .int .i64 r6]))]) (by kernel_rfl) ?_
        refine dL (E := ([(rg, 2)], none)) rfl rfl (by simp) (cfn) (o_loadBA (atL (k := 2) rfl) sz27 (by decide) ag27 rfl rfl (v := eRat p) rfl ?_)
        refine dL (E := ([(rg, 5)], none)) rfl rfl (by simp) (cfa (by simp [apartE]) (cfn)) (o_loadBA (atL (k := 5) rfl) sz27 (by decide) ag27 rfl rfl (v := eRat r) rfl ?_)
        refine dC (vs := [eRat p, eRat r]) rfl (vl' vr (vl' vr (vn))) (fun _ => ref02_Sub_ctr hc (fun _ hr => ⟨by rw [hr], rfl⟩)) rfl ?_
        refine dL (E := ([(rg, 5)], none)) rfl rfl (by simp) (cfa (by simp [apartE]) (cfa (by simp [apartE]) (cfn))) (o_loadBA (atL (k := 5) rfl) sz27 (by decide) ag27 rfl rfl (v := eRat r) rfl ?_)
        refine dC (vs := [eRat r]) rfl (vl' vr (vn)) (fun _ => ref45_rest_ctr hc1 (fun _ hr => ⟨by rw [hr], rfl⟩)) rfl ?_
        refine dC (vs := [eRat r3, eRat r4]) rfl (vl' vr (vl' vr (vn))) (fun _ => ref02_Div_ctr hc2 (fun _ _ hr => ⟨by rw [hr.1, hr.2], rfl⟩)) rfl ?_
        refine dP rfl rfl (o_move (v := .tuple [eRat r5, .int .i64 r6]) rfl ?_)
        refine dP rfl rfl (o_extract (v := eRat r5) rfl rfl rfl ?_)
        refine dP rfl rfl (o_extract (v := .int .i64 r6) rfl rfl rfl ?_)
        refine dL (E := ([], some (rg, 4))) rfl rfl (by simp) (cfo (by kernel_rfl) (cfo (by kernel_rfl) (cfo (by kernel_rfl) (cfn)))) (o_storeB (atL (k := 4) rfl) sz27 (by decide) rfl (w := eRat r5) rfl rfl rfl (v := eRat r5) rfl setL ?_)
        refine dN ?_
        refine Vc.seq' ?_
        refine Vc.drawn' mixed rg (fun _ => jcr) (by kernel_rfl) ?_
        refine dL (E := ([(rg, 4)], none)) rfl rfl (by simp) (cfn) (o_loadBA (atL (k := 4) rfl) sz27 (by decide) ag27 rfl rfl (v := eRat r5) rfl ?_)
        refine dL (E := ([(rg, 5)], none)) rfl rfl (by simp) (cfa (by simp [apartE]) (cfn)) (o_loadBA (atL (k := 5) rfl) sz27 (by decide) ag27 rfl rfl (v := eRat r) rfl ?_)
        refine dL (E := ([], some (rg, 4))) rfl rfl (by simp) (cfa (by simp [apartE]) (cfo (by kernel_rfl) (cfn))) (o_storeB (atL (k := 4) rfl) sz27 (by decide) rfl (w := eRat r5) rfl rfl rfl (v := eRat r5) rfl setL ?_)
        refine dL (E := ([], some (rg, 5))) rfl rfl (by simp) (cfo (by kernel_rfl) (cfo (by kernel_rfl) (cfo (by kernel_rfl) (cfn)))) (o_storeB (atL (k := 5) rfl) sz27 (by decide) rfl (w := eRat r) rfl rfl rfl (v := eRat r) rfl setL ?_)
        refine dP rfl rfl (o_assign (v := .int .i64 0) rfl ?_)
        refine dN ?_
        refine Vc.ret' ?_
        refine res_cellA (atL (k := 4) rfl) sz27 (by decide) ag27 rfl rfl (v := eRat r5) rfl ?_
        refine res_cellA (atL (k := 5) rfl) sz27 (by decide) ag27 rfl rfl (v := eRat r) rfl ?_
        refine res_tmp (v := .int .i64 0) rfl ?_
        refine res_nil ?_
        show Gives _ (.tuple [eRat r5, eRat r, .int .i64 0]) _
        exact gives_out hrg (VW.tupL (vl' vr (vl' vr (vl' vr (vn))))) (hQ _ _ _ h)
  · refine Vc.region' ?_
    refine Wl.cons rg (o_loadBA (atL (k := 2) rfl) sz27 (by decide) ag27 rfl rfl (v := eRat p) rfl ?_)
    refine Wl.cons rg (o_call (us := [eRat p]) rfl (vl' vr (vn)) (ref02_Prob_ctr h fun r7 h => ?_))
    refine Wl.cons rg (o_not rfl ?_)
    refine Wl.cons rg (o_move (v := .bool (!r7)) rfl ?_)
    refine Wl.guard rfl rfl (fun hb2 => ?_) (fun hb2 => ?_)
    · replace h := h.2 hb2
      refine Wl.cons rg (o_loadBA (atL (k := 3) rfl) sz27 (by decide) ag27 rfl rfl (v := eRat beta) rfl ?_)
      refine Wl.guardT rfl rfl hb2 ?_
      refine Wl.cons rg (o_call (us := [eRat beta]) rfl (vl' vr (vn)) (ref02_Prob_ctr h fun r8 h => ?_))
      refine Wl.guardT rfl rfl hb2 ?_
      refine Wl.cons rg (o_not rfl ?_)
      refine Wl.cons rg (o_pickF rfl hb2 (v := .bool (!r8)) rfl ?_)
      refine Wl.nil ?_
      exact ⟨((!r8), (g1, g2, g3, g4)), (canon (fc vr (fc vr (fc vr (fc vr (fc vr (fn)))))) (sc rfl (sc rfl (sc rfl (sc rfl (sn)))))), h⟩
    · replace h := h.1 hb2
      refine Wl.guardF rfl rfl hb2 rfl ?_
      refine Wl.guardF rfl rfl hb2 rfl ?_
      refine Wl.cons rg (o_pickT rfl hb2 (v := .bool true) rfl ?_)
      refine Wl.nil ?_
      exact ⟨(true, (g1, g2, g3, g4)), (canon (fc vr (fc vr (fc vr (fc vr (fc vr (fn)))))) (sc rfl (sc rfl (sc rfl (sc rfl (sn)))))), h⟩
theorem ref45_Total_ctr {q : List GRat} {Q : GRat → Int → Prop} {S : St} {R : AV → St → Prop} (h : ref45_Total_W q Q) (hQ : ∀ r1 r2, Q r1 r2 → R (.tuple [eRat r1, AV.int .i64 r2]) S) :
    Ctr Try.prog 43 [eL eRat q] S R := by
  unfold ref45_Total_W at h
  refine enterT Try.func43 rfl Try.ntmps43 Try.results43 (by kernel_rfl) (fun rg hrg => ?_)
  refine Vc.seq' ?_
  refine Vc.region' ?_
  refine Wl.cons rg (o_alloc zav27 ok27 (kk := 3) rfl (fun g1 => ?_))
  refine Wl.cons rg (o_assign (v := .int .i64 0) rfl ?_)
  refine Wl.nil ?_
  refine Vc.seq' ?_
  obtain ⟨J, h, hJ⟩ := h
  refine Vc.join' (σ := ((Bool) × (Nat))) (fun y => J y.1) (fun y => envOf [(0, eL eRat q), (2, .ptr rg 2 y.2 0 0), (14, .bool y.1)]) (fun y => stL S rg [(2, .arr 3 [.agg [.bool false, .nil, .nil]], y.2)]) (fun y h => ?_) ?_
  · obtain ⟨x, g2⟩ := y
    replace h := hJ x h
    show Vc _ _ _ _ (envOf [(0, eL eRat q), (2, .ptr rg 2 g2 0 0), (14, .bool x)]) (stL S rg [(2, .arr 3 [.agg [.bool false, .nil, .nil]], g2)])
    refine Vc.cond' rfl (fun hb => ?_) (fun hb => ?_)
    · replace h := h.1 hb
      refine Vc.seq' ?_
      refine Vc.region' ?_
      refine Wl.cons rg (o_build td27 zav27 bok27 szs27 sz27 (ps := []) rfl rfl (v := .agg [.bool false, .nil, .nil]) rfl ?_)
      refine Wl.cons rg (o_storeB (atL (k := 2) rfl) sz27 (by decide) rfl (w := .agg [.bool false, .nil, .nil]) rfl rfl rfl (v := .agg [.bool false, .nil, .nil]) rfl setL ?_)
      refine Wl.cons rg (o_assign (v := .int .i64 11) rfl ?_)
      refine Wl.nil ?_
      refine Vc.ret' ?_
      refine res_cellA (atL (k := 2) rfl) sz27 (by decide) ag27 rfl rfl (v := .agg [.bool false, .nil, .nil]) rfl ?_
      refine res_tmp (v := .int .i64 11) rfl ?_
      refine res_nil ?_
      show Gives _ (.tuple [.agg [.bool false, .nil, .nil], .int .i64 11]) _
      exact gives_out hrg (VW.tupL (vl' (VW.aggL (vl' vr (vl' (VW.nilL) (vl' (VW.nilL) (vn))))) (vl' vr (vn)))) (hQ _ _ h)
    · replace h := h.2 hb
      refine Vc.skip' ?_
      refine Vc.seq' ?_
      refine Vc.seq' ?_
      refine Vc.region' ?_
      refine Wl.cons rg (o_move (v := eL eRat q) rfl ?_)
      refine Wl.cons rg (o_call (us := [eL eRat q]) rfl (vl' vr (vn)) (ref45_probs_ctr h fun r h => ?_))
      refine Wl.cons rg (o_not rfl ?_)
      refine Wl.nil ?_
      refine Vc.cond' rfl (fun hb1 => ?_) (fun hb1 => ?_)
      · replace h := h.1 hb1
        refine Vc.seq' ?_
        refine Vc.region' ?_
        refine Wl.cons rg (o_build td27 zav27 bok27 szs27 sz27 (ps := []) rfl rfl (v := .agg [.bool false, .nil, .nil]) rfl ?_)
        refine Wl.cons rg (o_storeB (atL (k := 2) rfl) sz27 (by decide) rfl (w := .agg [.bool false, .nil, .nil]) rfl rfl rfl (v := .agg [.bool false, .nil, .nil]) rfl setL ?_)
        refine Wl.cons rg (o_assign (v := .int .i64 3) rfl ?_)
        refine Wl.nil ?_
        refine Vc.ret' ?_
        refine res_cellA (atL (k := 2) rfl) sz27 (by decide) ag27 rfl rfl (v := .agg [.bool false, .nil, .nil]) rfl ?_
        refine res_tmp (v := .int .i64 3) rfl ?_
        refine res_nil ?_
        show Gives _ (.tuple [.agg [.bool false, .nil, .nil], .int .i64 3]) _
        exact gives_out hrg (VW.tupL (vl' (VW.aggL (vl' vr (vl' (VW.nilL) (vl' (VW.nilL) (vn))))) (vl' vr (vn)))) (hQ _ _ h)
      · replace h := h.2 hb1
        refine Vc.skip' ?_
        refine Vc.seq' ?_
        refine Vc.region' ?_
        refine Wl.cons rg (o_build td27 zav27 bok27 szs27 sz27 (ps := []) rfl rfl (v := .agg [.bool false, .nil, .nil]) rfl ?_)
        refine Wl.cons rg (o_alloc zav27 ok27 (kk := 3) rfl (fun g3 => ?_))
        refine Wl.cons rg (o_storeB (atL (k := 4) rfl) sz27 (by decide) rfl (w := .agg [.bool false, .nil, .nil]) rfl rfl rfl (v := .agg [.bool false, .nil, .nil]) rfl setL ?_)
        refine Wl.nil ?_
        refine Vc.seq' ?_
        refine Vc.seq' ?_
        refine Vc.region' ?_
        refine Wl.cons rg (o_move (v := eL eRat q) rfl ?_)
        refine Wl.cons rg (o_len td22 rfl ?_)
        refine Wl.cons rg (o_move (v := .int .i64 0) rfl ?_)
        refine Wl.nil ?_
        refine Vc.blk ?_
        obtain ⟨I, μ, h0, hI⟩ := h
        refine Vc.loop' (σ := (Int × GRat)) (fun y => I y) (fun y => μ y) (fun y => envOf [(0, eL eRat q), (2, .ptr rg 2 g2 0 0), (4, .ptr rg 4 g3 0 0), (21, eL eRat q), (22, .int .i64 (q.length : Int)), (23, .int .i64 y.1)]) (fun y => stL S rg [(2, .arr 3 [.agg [.bool false, .nil, .nil]], g2), (4, .arr 3 [eRat y.2], g3)]) (0, (⟨false, [], []⟩ : GRat)) (EWk.trans (EWk.ow (k := 4) (o' := .arr 3 [eRat (⟨false, [], []⟩ : GRat)]) rfl (OW.one (VWL.vwc (vl' vr (vl' (VW.nilL) (vl' (VW.nilL) (vn))))))) (canon (fc vr (fc vr (fc vr (fc vr (fc vr (fc vr (fn))))))) (sc rfl (sc rfl (sn))))) h0 (fun y h => ?_)
        obtain ⟨x1, x2⟩ := y
        replace h := hI (x1, x2) h
        show Vc _ _ _ _ (envOf [(0, eL eRat q), (2, .ptr rg 2 g2 0 0), (4, .ptr rg 4 g3 0 0), (21, eL eRat q), (22, .int .i64 (q.length : Int)), (23, .int .i64 x1)]) (stL S rg [(2, .arr 3 [.agg [.bool false, .nil, .nil]], g2), (4, .arr 3 [eRat x2], g3)])
        refine Vc.seq' ?_
        refine Vc.region' ?_
        refine Wl.cons rg (o_lss rfl rfl ?_)
        refine Wl.nil ?_
        refine Vc.seq' ?_
        refine Vc.cond' rfl (fun hb2 => ?_) (fun hb2 => ?_)
        · replace h := h.1 hb2
          refine Vc.skip' ?_
          refine Vc.seq' ?_
          refine Vc.blk ?_
          refine Vc.seq' ?_
          refine Vc.region' ?_
          refine Wl.cons rg (o_move (v := .int .i64 x1) rfl ?_)
          refine Wl.cons rg (o_idxL td22 sz27 (by decide) (fun _ => rfl) rfl rfl h.1 ?_)
          replace h := h.2
          refine Wl.cons rg (o_loadIA sz27 (by decide) ag27 rfl rfl (v := eRat (at' q x1)) rfl ?_)
          refine Wl.cons rg (o_alloc zav27 ok27 (kk := 3) rfl (fun g4 => ?_))
          refine Wl.cons rg (o_assign (v := .int .i64 x1) rfl ?_)
          refine Wl.cons rg (o_storeB (atL (k := 6) rfl) sz27 (by decide) rfl (w := eRat (at' q x1)) rfl rfl rfl (v := eRat (at' q x1)) rfl setL ?_)
          refine Wl.nil ?_
          have hg := h.1
          replace h := h.2
          obtain ⟨r1, hc, h⟩ := h
          obtain ⟨r2, hc1, h⟩ := h
          obtain ⟨r3, hc2, h⟩ := h
          obtain ⟨r4, hc3, h⟩ := h
          refine Vc.drawn' mixed rg (usOf [(6, pc (.int .i64 r1)), (7, pc (eRat r2)), (8, pc (eRat r3)), (9, pc (eRat r4))]) (by kernel_rfl) ?_
          refine dL (E := ([(rg, 4)], none)) rfl rfl (by simp) (cfn) (o_loadBA (atL (k := 4) rfl) sz27 (by decide) ag27 rfl rfl (v := eRat x2) rfl ?_)
          refine dL (E := ([(rg, 6)], none)) rfl rfl (by simp) (cfa (by simp [apartE]) (cfn)) (o_loadBA (atL (k := 6) rfl) sz27 (by decide) ag27 rfl rfl (v := eRat (at' q x1)) rfl ?_)
          refine dP rfl rfl (o_move (v := eL eRat q) rfl ?_)
          refine dP rfl rfl (o_len td22 rfl ?_)
          refine dP rfl rfl (o_subG rfl rfl hg ?_)
          refine dP rfl rfl (o_move (v := .int .i64 x1) rfl ?_)
          refine dC (vs := [AV.int .i64 ((q.length : Int) - 1), AV.int .i64 x1]) rfl (vl' vr (vl' vr (vn))) (fun _ => ref45_choose_ctr hc (fun _ hr => ⟨by rw [hr], rfl⟩)) rfl ?_
          refine dC (vs := [AV.int .i64 r1]) rfl (vl' vr (vn)) (fun _ => ref02_Of_ctr hc1 (fun _ hr => ⟨by rw [hr], rfl⟩)) rfl ?_
          refine dC (vs := [eRat (at' q x1), eRat r2]) rfl (vl' vr (vl' vr (vn))) (fun _ => ref02_Mul_ctr hc2 (fun _ hr => ⟨by rw [hr], rfl⟩)) rfl ?_
          refine dC (vs := [eRat x2, eRat r3]) rfl (vl' vr (vl' vr (vn))) (fun _ => ref02_Add_ctr hc3 (fun _ hr => ⟨by rw [hr], rfl⟩)) rfl ?_
          refine dL (E := ([], some (rg, 4))) rfl rfl (by simp) (cfo (by kernel_rfl) (cfo (by kernel_rfl) (cfn))) (o_storeB (atL (k := 4) rfl) sz27 (by decide) rfl (w := eRat r4) rfl rfl rfl (v := eRat r4) rfl setL ?_)
          refine dN ?_
          refine Vc.region' ?_
          refine Wl.cons rg (o_addG rfl rfl h.1 ?_)
          replace h := h.2
          refine Wl.cons rg (o_move (v := .int .i64 (x1 + 1)) rfl ?_)
          refine Wl.nil ?_
          exact ⟨((x1 + 1), r4), (canon (fc vr (fc vr (fc vr (fc vr (fc vr (fc vr (fn))))))) (sc rfl (sc rfl (sn)))), h⟩
        · replace h := h.2 hb2
          refine Vc.exit' (exB_self ?_)
          refine Vc.seq' ?_
          refine Vc.region' ?_
          refine Wl.cons rg (o_loadBA (atL (k := 4) rfl) sz27 (by decide) ag27 rfl rfl (v := eRat x2) rfl ?_)
          refine Wl.cons rg (o_storeB (atL (k := 2) rfl) sz27 (by decide) rfl (w := eRat x2) rfl rfl rfl (v := eRat x2) rfl setL ?_)
          refine Wl.cons rg (o_assign (v := .int .i64 0) rfl ?_)
          refine Wl.nil ?_
          refine Vc.ret' ?_
          refine res_cellA (atL (k := 2) rfl) sz27 (by decide) ag27 rfl rfl (v := eRat x2) rfl ?_
          refine res_tmp (v := .int .i64 0) rfl ?_
          refine res_nil ?_
          show Gives _ (.tuple [eRat x2, .int .i64 0]) _
          exact gives_out hrg (VW.tupL (vl' vr (vl' vr (vn)))) (hQ _ _ h)
  · refine Vc.region' ?_
    refine Wl.cons rg (o_move (v := eL eRat q) rfl ?_)
    refine Wl.cons rg (o_len td22 rfl ?_)
    refine Wl.cons rg (o_lss rfl rfl ?_)
    refine Wl.cons rg (o_move (v := .bool (decide ((q.length : Int) < 2))) rfl ?_)
    refine Wl.guard rfl rfl (fun hb3 => ?_) (fun hb3 => ?_)
    · replace h := h.2 hb3
      refine Wl.cons rg (o_move (v := eL eRat q) rfl ?_)
      refine Wl.guardT rfl rfl hb3 ?_
      refine Wl.cons rg (o_len td22 rfl ?_)
      refine Wl.guardT rfl rfl hb3 ?_
      refine Wl.cons rg (o_gtr rfl rfl ?_)
      refine Wl.cons rg (o_pickF rfl hb3 (v := .bool (decide (4 < (q.length : Int)))) rfl ?_)
      refine Wl.nil ?_
      exact ⟨((decide (4 < (q.length : Int))), g1), (canon (fc vr (fc vr (fc vr (fn)))) (sc rfl (sn))), h⟩
    · replace h := h.1 hb3
      refine Wl.guardF rfl rfl hb3 rfl ?_
      refine Wl.guardF rfl rfl hb3 rfl ?_
      refine Wl.cons rg (o_pickT rfl hb3 (v := .bool true) rfl ?_)
      refine Wl.nil ?_
      exact ⟨(true, g1), (canon (fc vr (fc vr (fc vr (fn)))) (sc rfl (sn))), h⟩
end Go.Proofs.Ytonbnfgknijpoaa
